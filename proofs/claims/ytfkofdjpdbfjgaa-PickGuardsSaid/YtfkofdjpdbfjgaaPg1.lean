/- Functions of the program, told by the machine of values, and what they answer: a part. -/
import Derived.Test.YtfkofdjpdbfjgaaPgV3
import Derived.Test.YtfkofdjpdbfjgaaProg
import Derived.KernelRfl
import Derived.Test.YtfkofdjpdbfjgaaPgV5
import Derived.Tactics
import Derived.Tactics2
import Derived.Laws.Pointers
import Derived.Laws.CopyRow
import Derived.Test.YtfkofdjpdbfjgaaPgV4
open Go Go.VM
set_option linter.unusedVariables false
set_option maxRecDepth 100000
namespace Go.Proofs.Ytfkofdjpdbfjgaa.Vm
def T2:TyD:={under:=.int .i64,size:=1,bytes:=8,zv:=[((.int .i64 (0:Int)),.pr)],leafs:=[.int .i64],deep:=false}
def T3:TyD:={under:=.int .i64,size:=1,bytes:=8,zv:=[((.int .i64 (0:Int)),.pr)],leafs:=[.int .i64],deep:=false}
def T4:TyD:={under:=.bool,size:=1,bytes:=1,zv:=[((.bool false),.pr)],leafs:=[.bool],deep:=false}
def T5:TyD:={under:=.int .u8,size:=1,bytes:=1,zv:=[((.int .u8 (0:Int)),.pr)],leafs:=[.int .u8],deep:=false}
def T6:TyD:={under:=.int .u8,size:=1,bytes:=1,zv:=[((.int .u8 (0:Int)),.pr)],leafs:=[.int .u8],deep:=false}
def T7:TyD:={under:=.struct [(0,2),(1,3),(2,4),(3,6)],size:=4,bytes:=24,zv:=[((.int .i64 (0:Int)),.pr),((.int .i64 (0:Int)),.pr),((.bool false),.pr),((.int .u8 (0:Int)),.pr)],leafs:=[.int .i64,.int .i64,.bool,.int .u8],deep:=false}
def T8:TyD:={under:=.struct [(0,2),(1,3),(2,4),(3,6)],size:=4,bytes:=24,zv:=[((.int .i64 (0:Int)),.pr),((.int .i64 (0:Int)),.pr),((.bool false),.pr),((.int .u8 (0:Int)),.pr)],leafs:=[.int .i64,.int .i64,.bool,.int .u8],deep:=false}
def T9:TyD:={under:=.string,size:=1,bytes:=16,zv:=[((.str ⟨#[]⟩),.pr)],leafs:=[.string],deep:=false}
def T10:TyD:={under:=.string,size:=1,bytes:=16,zv:=[((.str ⟨#[]⟩),.pr)],leafs:=[.string],deep:=false}
def T23:TyD:={under:=.struct [(0,3),(1,3),(2,3),(3,3),(4,3),(5,3),(6,9)],size:=7,bytes:=64,zv:=[((.int .i64 (0:Int)),.pr),((.int .i64 (0:Int)),.pr),((.int .i64 (0:Int)),.pr),((.int .i64 (0:Int)),.pr),((.int .i64 (0:Int)),.pr),((.int .i64 (0:Int)),.pr),((.str ⟨#[]⟩),.pr)],leafs:=[.int .i64,.int .i64,.int .i64,.int .i64,.int .i64,.int .i64,.string],deep:=false}
def T24:TyD:={under:=.slice 23,size:=1,bytes:=24,zv:=[((.sl 7 []),.own true)],leafs:=[.slice 23],deep:=false}
def T25:TyD:={under:=.slice 3,size:=1,bytes:=24,zv:=[((.sl 1 []),.own true)],leafs:=[.slice 3],deep:=false}
def T26:TyD:={under:=.slice 5,size:=1,bytes:=24,zv:=[((.sl 1 []),.own true)],leafs:=[.slice 5],deep:=false}
def T28:TyD:={under:=.struct [(0,3),(1,3),(2,2),(3,9)],size:=4,bytes:=40,zv:=[((.int .i64 (0:Int)),.pr),((.int .i64 (0:Int)),.pr),((.int .i64 (0:Int)),.pr),((.str ⟨#[]⟩),.pr)],leafs:=[.int .i64,.int .i64,.int .i64,.string],deep:=false}
def T29:TyD:={under:=.slice 28,size:=1,bytes:=24,zv:=[((.sl 4 []),.own true)],leafs:=[.slice 28],deep:=false}
def T30:TyD:={under:=.slice 2,size:=1,bytes:=24,zv:=[((.sl 1 []),.own true)],leafs:=[.slice 2],deep:=false}
def T32:TyD:={under:=.struct [(0,3),(1,3),(2,3),(3,3),(4,3),(5,9)],size:=6,bytes:=56,zv:=[((.int .i64 (0:Int)),.pr),((.int .i64 (0:Int)),.pr),((.int .i64 (0:Int)),.pr),((.int .i64 (0:Int)),.pr),((.int .i64 (0:Int)),.pr),((.str ⟨#[]⟩),.pr)],leafs:=[.int .i64,.int .i64,.int .i64,.int .i64,.int .i64,.string],deep:=false}
def T33:TyD:={under:=.slice 32,size:=1,bytes:=24,zv:=[((.sl 6 []),.own true)],leafs:=[.slice 32],deep:=false}
def T34:TyD:={under:=.slice 29,size:=1,bytes:=24,zv:=[((.sl 1 []),.own true)],leafs:=[.slice 29],deep:=false}
def T35:TyD:={under:=.slice 9,size:=1,bytes:=24,zv:=[((.sl 1 []),.own true)],leafs:=[.slice 9],deep:=false}
def T37:TyD:={under:=.struct [(0,9),(1,3),(2,3),(3,30),(4,35),(5,35),(6,24),(7,33),(8,34)],size:=9,bytes:=176,zv:=[((.str ⟨#[]⟩),.pr),((.int .i64 (0:Int)),.pr),((.int .i64 (0:Int)),.pr),((.sl 1 []),.own true),((.sl 1 []),.own true),((.sl 1 []),.own true),((.sl 7 []),.own true),((.sl 6 []),.own true),((.sl 1 []),.own true)],leafs:=[.string,.int .i64,.int .i64,.slice 2,.slice 9,.slice 9,.slice 23,.slice 32,.slice 29],deep:=false}
def T38:TyD:={under:=.slice 25,size:=1,bytes:=24,zv:=[((.sl 1 []),.own true)],leafs:=[.slice 25],deep:=false}
def T40:TyD:={under:=.struct [(0,25),(1,30),(2,38)],size:=3,bytes:=72,zv:=[((.sl 1 []),.own true),((.sl 1 []),.own true),((.sl 1 []),.own true)],leafs:=[.slice 3,.slice 2,.slice 25],deep:=false}
def T41:TyD:={under:=.slice 46,size:=1,bytes:=24,zv:=[((.sl 2 []),.own true)],leafs:=[.slice 46],deep:=false}
def T43:TyD:={under:=.struct [(0,25),(1,41),(2,3)],size:=3,bytes:=56,zv:=[((.sl 1 []),.own true),((.sl 2 []),.own true),((.int .i64 (0:Int)),.pr)],leafs:=[.slice 3,.slice 46,.int .i64],deep:=false}
def T46:TyD:={under:=.struct [(0,9),(1,2)],size:=2,bytes:=24,zv:=[((.str ⟨#[]⟩),.pr),((.int .i64 (0:Int)),.pr)],leafs:=[.string,.int .i64],deep:=false,cmp:=true}
def T51:TyD:={under:=.slice 62,size:=1,bytes:=24,zv:=[((.sl 4 []),.own true)],leafs:=[.slice 62],deep:=false}
def T53:TyD:={under:=.struct [(0,40),(3,41),(4,51),(5,3)],size:=6,bytes:=128,zv:=[((.sl 1 []),.own true),((.sl 1 []),.own true),((.sl 1 []),.own true),((.sl 2 []),.own true),((.sl 4 []),.own true),((.int .i64 (0:Int)),.pr)],leafs:=[.slice 3,.slice 2,.slice 25,.slice 46,.slice 62,.int .i64],deep:=false}
def T58:TyD:={under:=.struct [(0,40),(3,51),(4,3),(5,3),(6,4)],size:=7,bytes:=120,zv:=[((.sl 1 []),.own true),((.sl 1 []),.own true),((.sl 1 []),.own true),((.sl 4 []),.own true),((.int .i64 (0:Int)),.pr),((.int .i64 (0:Int)),.pr),((.bool false),.pr)],leafs:=[.slice 3,.slice 2,.slice 25,.slice 62,.int .i64,.int .i64,.bool],deep:=false}
def T62:TyD:={under:=.struct [(0,3),(1,3),(2,46)],size:=4,bytes:=40,zv:=[((.int .i64 (0:Int)),.pr),((.int .i64 (0:Int)),.pr),((.str ⟨#[]⟩),.pr),((.int .i64 (0:Int)),.pr)],leafs:=[.int .i64,.int .i64,.string,.int .i64],deep:=false,cmp:=true}
def T64:TyD:={under:=.pointer,size:=1,bytes:=8,zv:=[(.nilp,.pr)],leafs:=[.pointer],deep:=false}
def T65:TyD:={under:=.map 3 4,size:=1,bytes:=8,zv:=[(.undef,.pr)],leafs:=[.map 3 4],deep:=false}
def T67:TyD:={under:=.struct [(0,37),(9,40),(12,2),(13,65),(14,43)],size:=17,bytes:=320,zv:=[((.str ⟨#[]⟩),.pr),((.int .i64 (0:Int)),.pr),((.int .i64 (0:Int)),.pr),((.sl 1 []),.own true),((.sl 1 []),.own true),((.sl 1 []),.own true),((.sl 7 []),.own true),((.sl 6 []),.own true),((.sl 1 []),.own true),((.sl 1 []),.own true),((.sl 1 []),.own true),((.sl 1 []),.own true),((.int .i64 (0:Int)),.pr),(.undef,.pr),((.sl 1 []),.own true),((.sl 2 []),.own true),((.int .i64 (0:Int)),.pr)],leafs:=[.string,.int .i64,.int .i64,.slice 2,.slice 9,.slice 9,.slice 23,.slice 32,.slice 29,.slice 3,.slice 2,.slice 25,.int .i64,.map 3 4,.slice 3,.slice 46,.int .i64],deep:=false}
def T74:TyD:={under:=.pointer,size:=1,bytes:=8,zv:=[(.nilp,.pr)],leafs:=[.pointer],deep:=false}
def T77:TyD:={under:=.struct [(0,37),(9,2),(10,53)],size:=16,bytes:=312,zv:=[((.str ⟨#[]⟩),.pr),((.int .i64 (0:Int)),.pr),((.int .i64 (0:Int)),.pr),((.sl 1 []),.own true),((.sl 1 []),.own true),((.sl 1 []),.own true),((.sl 7 []),.own true),((.sl 6 []),.own true),((.sl 1 []),.own true),((.int .i64 (0:Int)),.pr),((.sl 1 []),.own true),((.sl 1 []),.own true),((.sl 1 []),.own true),((.sl 2 []),.own true),((.sl 4 []),.own true),((.int .i64 (0:Int)),.pr)],leafs:=[.string,.int .i64,.int .i64,.slice 2,.slice 9,.slice 9,.slice 23,.slice 32,.slice 29,.int .i64,.slice 3,.slice 2,.slice 25,.slice 46,.slice 62,.int .i64],deep:=false}
def T78:TyD:={under:=.slice 80,size:=1,bytes:=24,zv:=[((.sl 2 []),.own true)],leafs:=[.slice 80],deep:=false}
def T80:TyD:={under:=.struct [(0,3),(1,3)],size:=2,bytes:=16,zv:=[((.int .i64 (0:Int)),.pr),((.int .i64 (0:Int)),.pr)],leafs:=[.int .i64,.int .i64],deep:=false}
def T81:TyD:={under:=.pointer,size:=1,bytes:=8,zv:=[(.nilp,.pr)],leafs:=[.pointer],deep:=false}
def T90:TyD:={under:=.pointer,size:=1,bytes:=8,zv:=[(.nilp,.pr)],leafs:=[.pointer],deep:=false}
def T92:TyD:={under:=.struct [(0,37),(9,58),(16,41)],size:=17,bytes:=320,zv:=[((.str ⟨#[]⟩),.pr),((.int .i64 (0:Int)),.pr),((.int .i64 (0:Int)),.pr),((.sl 1 []),.own true),((.sl 1 []),.own true),((.sl 1 []),.own true),((.sl 7 []),.own true),((.sl 6 []),.own true),((.sl 1 []),.own true),((.sl 1 []),.own true),((.sl 1 []),.own true),((.sl 1 []),.own true),((.sl 4 []),.own true),((.int .i64 (0:Int)),.pr),((.int .i64 (0:Int)),.pr),((.bool false),.pr),((.sl 2 []),.own true)],leafs:=[.string,.int .i64,.int .i64,.slice 2,.slice 9,.slice 9,.slice 23,.slice 32,.slice 29,.slice 3,.slice 2,.slice 25,.slice 62,.int .i64,.int .i64,.bool,.slice 46],deep:=false}
def T102:TyD:={under:=.int .i64,size:=1,bytes:=8,zv:=[((.int .i64 (0:Int)),.pr)],leafs:=[.int .i64],deep:=false}
def T104:TyD:={under:=.struct [(0,2),(1,30),(2,41),(3,51),(4,3),(5,102)],size:=6,bytes:=96,zv:=[((.int .i64 (0:Int)),.pr),((.sl 1 []),.own true),((.sl 2 []),.own true),((.sl 4 []),.own true),((.int .i64 (0:Int)),.pr),((.int .i64 (0:Int)),.pr)],leafs:=[.int .i64,.slice 2,.slice 46,.slice 62,.int .i64,.int .i64],deep:=false}
def T110:TyD:={under:=.pointer,size:=1,bytes:=8,zv:=[(.nilp,.pr)],leafs:=[.pointer],deep:=false}
def T111:TyD:={under:=.slice 4,size:=1,bytes:=24,zv:=[((.sl 1 []),.own true)],leafs:=[.slice 4],deep:=false}
def T113:TyD:={under:=.struct [(0,24),(1,38),(2,111),(3,3)],size:=4,bytes:=80,zv:=[((.sl 7 []),.own true),((.sl 1 []),.own true),((.sl 1 []),.own true),((.int .i64 (0:Int)),.pr)],leafs:=[.slice 23,.slice 25,.slice 4,.int .i64],deep:=false}
def T124:TyD:={under:=.int .u64,size:=1,bytes:=8,zv:=[((.int .u64 (0:Int)),.pr)],leafs:=[.int .u64],deep:=false}
def T125:TyD:={under:=.pointer,size:=1,bytes:=8,zv:=[(.nilp,.pr)],leafs:=[.pointer],deep:=false}
def T126:TyD:={under:=.pointer,size:=1,bytes:=8,zv:=[(.nilp,.pr)],leafs:=[.pointer],deep:=false}
def T127:TyD:={under:=.int .u64,size:=1,bytes:=8,zv:=[((.int .u64 (0:Int)),.pr)],leafs:=[.int .u64],deep:=false}
def T128:TyD:={under:=.array 2 127,size:=2,bytes:=16,zv:=[((.int .u64 (0:Int)),.pr),((.int .u64 (0:Int)),.pr)],leafs:=[.int .u64,.int .u64],deep:=false}
def T130:TyD:={under:=.struct [(0,128)],size:=2,bytes:=16,zv:=[((.int .u64 (0:Int)),.pr),((.int .u64 (0:Int)),.pr)],leafs:=[.int .u64,.int .u64],deep:=false,cmp:=true}
def T133:TyD:={under:=.struct [(0,29),(1,126),(2,130),(4,2),(5,30),(6,30),(7,3)],size:=8,bytes:=112,zv:=[((.sl 4 []),.own true),(.nilp,.pr),((.int .u64 (0:Int)),.pr),((.int .u64 (0:Int)),.pr),((.int .i64 (0:Int)),.pr),((.sl 1 []),.own true),((.sl 1 []),.own true),((.int .i64 (0:Int)),.pr)],leafs:=[.slice 28,.pointer,.int .u64,.int .u64,.int .i64,.slice 2,.slice 2,.int .i64],deep:=false}
def T140:TyD:={under:=.int .i64,size:=1,bytes:=8,zv:=[((.int .i64 (0:Int)),.pr)],leafs:=[.int .i64],deep:=false}
def T147:TyD:={under:=.int .u32,size:=1,bytes:=4,zv:=[((.int .u32 (0:Int)),.pr)],leafs:=[.int .u32],deep:=false}
def T157:TyD:={under:=.int .u64,size:=1,bytes:=8,zv:=[((.int .u64 (0:Int)),.pr)],leafs:=[.int .u64],deep:=false}
def T161:TyD:={under:=.pointer,size:=1,bytes:=8,zv:=[(.nilp,.pr)],leafs:=[.pointer],deep:=false}
def T165:TyD:={under:=.pointer,size:=1,bytes:=8,zv:=[(.nilp,.pr)],leafs:=[.pointer],deep:=false}
def S3:Sig:={params:=[.val .pr (.int .u8),.val .pr (.int .i64),.val .pr .bool],boxes:=[],outs:=[(.pr,.bool)]}
def S4:Sig:={params:=[.val .pr .bool,.val .pr (.int .u8),.val .pr (.int .u8)],boxes:=[],outs:=[(.pr,.bool)]}
def S5:Sig:={params:=[.val .pr (.int .u8),.val .pr (.int .u8)],boxes:=[],outs:=[(.pr,.bool)]}
def S6:Sig:={params:=[.val .ro (.agg [.str,.int .i64,.int .i64,.sl 1,.sl 1,.sl 1,.sl 7,.sl 6,.sl 1]),.val .ro (.agg [.sl 1,.sl 1,.sl 1]),.val .ro (.agg [.str,.int .i64])],boxes:=[],outs:=[(.ro,.agg [.sl 1,.sl 2,.int .i64])]}
def S7:Sig:={params:=[.val .ro (.sl 7),.val .ro (.sl 1)],boxes:=[],outs:=[(.pr,.bool)]}
def S8:Sig:={params:=[],boxes:=[],outs:=[(.pr,.bool)]}
def S9:Sig:={params:=[.val .pr (.int .i64)],boxes:=[],outs:=[(.ro,.sl 7)]}
def S10:Sig:={params:=[.val .ro (.agg [.str,.int .i64,.int .i64,.sl 1,.sl 1,.sl 1,.sl 7,.sl 6,.sl 1]),.val .ro (.agg [.sl 1,.sl 1,.sl 1]),.val .ro (.sl 1),.val .pr (.int .i64)],boxes:=[],outs:=[(.ro,.agg [.sl 1,.sl 1,.sl 1,.sl 2,.sl 4,.int .i64])]}
def S11:Sig:={params:=[.val .ro (.sl 1),.val .ro (.sl 1)],boxes:=[],outs:=[(.pr,.bool)]}
def S12:Sig:={params:=[],boxes:=[],outs:=[(.pr,.bool)]}
def S13:Sig:={params:=[.val .ro (.agg [.str,.int .i64,.int .i64,.sl 1,.sl 1,.sl 1,.sl 7,.sl 6,.sl 1]),.val .ro (.agg [.sl 1,.sl 1,.sl 1]),.val .ro (.agg [.str,.int .i64])],boxes:=[],outs:=[(.ro,.agg [.sl 1,.sl 1,.sl 1,.sl 4,.int .i64,.int .i64,.bool])]}
def S14:Sig:={params:=[.val .ro (.agg [.str,.int .i64,.int .i64,.sl 1,.sl 1,.sl 1,.sl 7,.sl 6,.sl 1])],boxes:=[],outs:=[(.ro,.agg [.sl 1,.sl 1,.sl 1,.sl 4,.int .i64,.int .i64,.bool])]}
def S15:Sig:={params:=[],boxes:=[],outs:=[(.pr,.bool)]}
def S16:Sig:={params:=[.ptr 0 0,.val .pr .str,.val .pr .bool],boxes:=[[.val .pr .str,.val .pr (.int .i64),.val .pr (.int .i64),.fix (.sl 1),.fix (.sl 1),.fix (.sl 1),.fix (.sl 7),.fix (.sl 6),.fix (.sl 1),.fix (.sl 1),.fix (.sl 1),.fix (.sl 1),.val .pr (.int .i64),.val (.own true) .any,.val (.own true) .any,.val (.own true) .any,.val .pr (.int .i64)]],outs:=[(.ro,.agg [.sl 1,.sl 2,.int .i64])]}
def S17:Sig:={params:=[.val .ro (.sl 1),.val .pr (.int .i64)],boxes:=[],outs:=[(.pr,.bool)]}
def S18:Sig:={params:=[.val .ro (.sl 7),.val .pr (.int .i64)],boxes:=[],outs:=[(.pr,.bool)]}
def S19:Sig:={params:=[.val .ro (.agg [.int .i64,.int .i64,.int .i64,.int .i64,.int .i64,.int .i64,.str])],boxes:=[],outs:=[(.pr,.bool)]}
def S20:Sig:={params:=[.val .ro (.sl 1),.val .ro (.sl 1)],boxes:=[],outs:=[(.ro,.sl 1)]}
def S21:Sig:={params:=[.val .ro (.sl 7),.val .pr (.int .i64)],boxes:=[],outs:=[(.ro,.sl 1)]}
def S22:Sig:={params:=[.val .ro (.agg [.sl 1,.sl 1,.sl 1])],boxes:=[],outs:=[((.own true),.agg [.sl 1,.sl 1,.sl 1])]}
def S23:Sig:={params:=[.val .ro (.sl 7),.val .ro (.sl 1),.val .ro (.sl 1)],boxes:=[],outs:=[((.own true),.sl 1)]}
def S24:Sig:={params:=[.val .ro (.sl 7),.val .ro (.sl 1),.val .ro (.sl 1),.val .ro (.sl 1)],boxes:=[],outs:=[((.own true),.sl 1)]}
def S25:Sig:={params:=[.ptr 0 0,.val .pr (.int .i64)],boxes:=[[.val .pr .str,.val .pr (.int .i64),.val .pr (.int .i64),.fix (.sl 1),.fix (.sl 1),.fix (.sl 1),.fix (.sl 7),.fix (.sl 6),.fix (.sl 1),.val .pr (.int .i64),.fix (.sl 1),.val (.own true) (.sl 1),.fix (.sl 1),.val (.own true) (.sl 2),.val (.own true) (.sl 4),.val .pr (.int .i64)]],outs:=[]}
def S27:Sig:={params:=[.val .pr (.int .i64),.ptr 0 0],boxes:=[[.val .pr (.int .i64)]],outs:=[(.pr,.bool)]}
def S28:Sig:={params:=[.ptr 0 0,.val .ro (.sl 1)],boxes:=[[.val .pr .str,.val .pr (.int .i64),.val .pr (.int .i64),.fix (.sl 1),.fix (.sl 1),.fix (.sl 1),.fix (.sl 7),.fix (.sl 6),.fix (.sl 1),.val .pr (.int .i64),.val (.own true) (.sl 1),.val (.own true) (.sl 1),.fix (.sl 1),.val (.own true) (.sl 2),.val (.own true) (.sl 4),.val .pr (.int .i64)]],outs:=[]}
def S29:Sig:={params:=[.val .ro (.sl 7),.val .ro (.sl 2),.val .ro (.sl 1)],boxes:=[],outs:=[((.own true),.sl 1)]}
def S30:Sig:={params:=[.val .ro (.agg [.str,.int .i64,.int .i64,.sl 1,.sl 1,.sl 1,.sl 7,.sl 6,.sl 1])],boxes:=[],outs:=[(.ro,.agg [.sl 1,.sl 1,.sl 1,.sl 2,.sl 4,.int .i64])]}
def S31:Sig:={params:=[.ptr 0 0,.val .ro (.agg [.str,.int .i64])],boxes:=[[.val .pr .str,.val .pr (.int .i64),.val .pr (.int .i64),.fix (.sl 1),.fix (.sl 1),.fix (.sl 1),.fix (.sl 7),.fix (.sl 6),.fix (.sl 1),.val .ro (.sl 1),.val .ro (.sl 1),.val .ro (.sl 1),.val (.own false) (.sl 4),.val .pr (.int .i64),.val .pr (.int .i64),.val .pr .bool,.val (.own false) (.sl 2)]],outs:=[]}
def S32:Sig:={params:=[.ptr 0 0],boxes:=[[.val .pr .str,.val .pr (.int .i64),.val .pr (.int .i64),.fix (.sl 1),.fix (.sl 1),.fix (.sl 1),.fix (.sl 7),.fix (.sl 6),.fix (.sl 1),.val .ro (.sl 1),.val .ro (.sl 1),.val .ro (.sl 1),.val (.own false) .any,.val .pr (.int .i64),.val .pr (.int .i64),.val .pr .bool,.val (.own false) (.sl 2)]],outs:=[(.ro,.agg [.sl 1,.sl 1,.sl 1,.sl 4,.int .i64,.int .i64,.bool])]}
def S33:Sig:={params:=[.ptr 0 0,.val .ro (.agg [.sl 1,.sl 1,.sl 1,.sl 2,.sl 4,.int .i64])],boxes:=[[.val .pr .str,.val .pr (.int .i64),.val .pr (.int .i64),.fix (.sl 1),.fix (.sl 1),.fix (.sl 1),.fix (.sl 7),.fix (.sl 6),.fix (.sl 1),.val .ro (.sl 1),.val .ro (.sl 1),.val .ro (.sl 1),.val (.own false) (.sl 4),.val .pr (.int .i64),.val .pr (.int .i64),.val .pr .bool,.val (.own false) (.sl 2)]],outs:=[]}
def S34:Sig:={params:=[.val .ro (.sl 7),.val .ro (.sl 1)],boxes:=[],outs:=[(.ro,.sl 1)]}
def S35:Sig:={params:=[.ptr 0 0,.val .pr (.int .i64),.val .pr .str],boxes:=[[.val .pr .str,.val .pr (.int .i64),.val .pr (.int .i64),.fix (.sl 1),.fix (.sl 1),.fix (.sl 1),.fix (.sl 7),.fix (.sl 6),.fix (.sl 1),.fix (.sl 1),.fix (.sl 1),.fix (.sl 1),.val .pr (.int .i64),.val (.own true) .any,.val (.own true) (.sl 1),.val (.own true) (.sl 2),.val .pr (.int .i64)]],outs:=[(.pr,.int .i64)]}
def S36:Sig:={params:=[.val .ro (.sl 1),.val .pr (.int .i64)],boxes:=[],outs:=[(.pr,.bool)]}
def S37:Sig:={params:=[.ptr 0 0,.val .pr (.int .i64)],boxes:=[[.val .pr .str,.val .pr (.int .i64),.val .pr (.int .i64),.fix (.sl 1),.fix (.sl 1),.fix (.sl 1),.fix (.sl 7),.fix (.sl 6),.fix (.sl 1),.fix (.sl 1),.fix (.sl 1),.fix (.sl 1),.val .pr (.int .i64),.val (.own true) .any,.val (.own true) (.sl 1),.val (.own true) (.sl 2),.val .pr (.int .i64)]],outs:=[]}
def S38:Sig:={params:=[.val .ro (.sl 1),.val .ro (.sl 1)],boxes:=[],outs:=[(.ro,.sl 1)]}
def S39:Sig:={params:=[.val .ro (.sl 7),.val .pr (.int .i64)],boxes:=[],outs:=[(.ro,.sl 1)]}
def S40:Sig:={params:=[.val .ro (.sl 1)],boxes:=[],outs:=[((.own true),.sl 1)]}
def S41:Sig:={params:=[.val .ro (.sl 1)],boxes:=[],outs:=[((.own true),.sl 1)]}
def S43:Sig:={params:=[.val .pr (.int .i64),.ptr 0 0,.ptr 1 0],boxes:=[[.fix (.sl 7)],[.val .pr (.int .i64)]],outs:=[(.pr,.bool)]}
def S44:Sig:={params:=[.val .ro (.sl 7),.val .pr (.int .i64),.val .pr (.int .i64)],boxes:=[],outs:=[(.pr,.bool)]}
def S45:Sig:={params:=[.val .ro (.sl 1)],boxes:=[],outs:=[]}
def S46:Sig:={params:=[.val (.own true) (.sl 1)],boxes:=[],outs:=[((.own true),.sl 1)]}
def S47:Sig:={params:=[.val .ro (.sl 1)],boxes:=[],outs:=[],io:=true}
def S48:Sig:={params:=[.val .ro (.agg [.int .i64,.int .i64,.int .i64,.int .i64,.int .i64,.int .i64,.str])],boxes:=[],outs:=[(.pr,.bool)]}
def S49:Sig:={params:=[.val .ro (.sl 7),.val .pr (.int .i64)],boxes:=[],outs:=[(.pr,.bool)]}
def S50:Sig:={params:=[.val .ro (.sl 4),.val .ro (.agg [.sl 1,.sl 1,.sl 1]),.val .pr (.int .i64),.val .pr (.int .i64)],boxes:=[],outs:=[((.own true),.agg [.int .i64,.sl 1,.sl 2,.sl 4,.int .i64,.int .i64])]}
def S52:Sig:={params:=[.val .ro (.sl 1),.val .pr (.int .i64)],boxes:=[],outs:=[(.pr,.int .i64),(.pr,.bool)]}
def S53:Sig:={params:=[.val (.own true) (.sl 1),.val .pr (.int .i64),.val (.own true) (.sl 1)],boxes:=[],outs:=[((.own true),.sl 1)]}
def S54:Sig:={params:=[.ptr 0 0,.val .pr (.int .i64)],boxes:=[[.fix (.sl 7),.fix (.sl 1),.val (.own true) (.sl 1),.val .pr (.int .i64)]],outs:=[]}
def S55:Sig:={params:=[.ptr 0 0,.val .pr (.int .i64)],boxes:=[[.fix (.sl 7),.fix (.sl 1),.val (.own true) (.sl 1),.val .pr (.int .i64)]],outs:=[(.ro,.sl 1)]}
def S56:Sig:={params:=[.ptr 0 0,.val .pr (.int .i64),.val .pr (.int .i64)],boxes:=[[.fix (.sl 7),.fix (.sl 1),.val (.own true) (.sl 1),.val .pr (.int .i64)]],outs:=[]}
def S57:Sig:={params:=[.ptr 0 0],boxes:=[[.fix (.sl 7),.fix (.sl 1),.val (.own true) (.sl 1),.val .pr (.int .i64)]],outs:=[((.own true),.sl 1)]}
def S58:Sig:={params:=[.val .ro (.sl 7)],boxes:=[],outs:=[((.own true),.sl 1)]}
def S59:Sig:={params:=[.ptr 0 0,.val .ro (.agg [.sl 1,.sl 2,.int .i64])],boxes:=[[.val .pr .str,.val .pr (.int .i64),.val .pr (.int .i64),.fix (.sl 1),.fix (.sl 1),.fix (.sl 1),.fix (.sl 7),.fix (.sl 6),.fix (.sl 1),.val .ro (.sl 1),.val .ro (.sl 1),.val .ro (.sl 1),.val (.own false) (.sl 4),.val .pr (.int .i64),.val .pr (.int .i64),.val .pr .bool,.val (.own false) (.sl 2)]],outs:=[]}
def S60:Sig:={params:=[.val .ro (.agg [.str,.int .i64,.int .i64,.sl 1,.sl 1,.sl 1,.sl 7,.sl 6,.sl 1]),.val .ro (.agg [.sl 1,.sl 1,.sl 1])],boxes:=[],outs:=[(.ro,.agg [.sl 1,.sl 2,.int .i64])]}
def S61:Sig:={params:=[.val .ro (.sl 7),.val .pr (.int .i64)],boxes:=[],outs:=[(.pr,.bool)]}
def S62:Sig:={params:=[.ptr 0 0,.val .pr (.int .i64)],boxes:=[[.val .pr .str,.val .pr (.int .i64),.val .pr (.int .i64),.fix (.sl 1),.fix (.sl 1),.fix (.sl 1),.fix (.sl 7),.fix (.sl 6),.fix (.sl 1),.fix (.sl 1),.fix (.sl 1),.fix (.sl 1),.val .pr (.int .i64),.val (.own true) .any,.val (.own true) (.sl 1),.val (.own true) (.sl 2),.val .pr (.int .i64)]],outs:=[(.pr,.bool)]}
def S63:Sig:={params:=[.val .ro (.sl 1),.val .pr (.int .i64)],boxes:=[],outs:=[(.pr,.int .i64)]}
def S64:Sig:={params:=[.val .pr (.int .i64),.ptr 0 0,.ptr 2 0],boxes:=[[.ptr 1 0],[.val .pr .str,.val .pr (.int .i64),.val .pr (.int .i64),.fix (.sl 1),.fix (.sl 1),.fix (.sl 1),.fix (.sl 7),.fix (.sl 6),.fix (.sl 1),.fix (.sl 1),.fix (.sl 1),.fix (.sl 1),.val .pr (.int .i64),.fix .any,.fix .any,.fix (.sl 2),.val .pr (.int .i64)],[.val .pr (.int .i64),.val .pr (.int .i64),.val .pr (.int .i64),.val .pr (.int .i64),.val .pr (.int .i64),.val .pr .str]],outs:=[(.pr,.bool)]}
def S65:Sig:={params:=[.val .ro (.sl 7),.val .ro (.agg [.int .i64,.int .i64,.int .i64,.int .i64,.int .i64,.str]),.val .ro (.agg [.int .i64,.int .i64,.int .i64,.int .i64,.int .i64,.str])],boxes:=[],outs:=[(.pr,.bool)]}
def S66:Sig:={params:=[.val .ro (.sl 7),.val .pr (.int .i64),.val .pr (.int .i64)],boxes:=[],outs:=[(.pr,.bool)]}
def S67:Sig:={params:=[.val .ro (.sl 1),.val .pr (.int .i64),.val .pr (.int .i64),.val .pr (.int .i64)],boxes:=[],outs:=[]}
def S68:Sig:={params:=[.val .pr (.int .u64)],boxes:=[],outs:=[(.pr,.int .i64)]}
def S69:Sig:={params:=[.val .ro (.sl 1)],boxes:=[],outs:=[(.ro,.agg [.int .u64,.int .u64])]}
def S70:Sig:={params:=[.ptr 0 0],boxes:=[[.val .pr (.int .i64),.fix (.sl 1),.fix (.sl 2),.fix (.sl 4),.val .pr (.int .i64),.val .pr (.int .i64)]],outs:=[]}
def S71:Sig:={params:=[.ptr 0 0,.val .ro (.agg [.int .i64,.int .i64,.int .i64,.str])],boxes:=[[.fix (.sl 4),.ptr 1 0,.val .pr (.int .u64),.val .pr (.int .u64),.val .pr (.int .i64),.val (.own true) (.sl 1),.val (.own true) (.sl 1),.val .pr (.int .i64)],[.val .pr (.int .i64),.val (.own true) (.sl 1),.val (.own true) (.sl 2),.val (.own true) (.sl 4),.val .pr (.int .i64),.val .pr (.int .i64)]],outs:=[],pan:=true}
def S72:Sig:={params:=[.val .pr (.int .i64),.val .pr (.int .i64)],boxes:=[],outs:=[(.pr,.bool)]}
def S73:Sig:={params:=[.val .pr (.int .i64)],boxes:=[],outs:=[(.pr,.bool)]}
def S75:Sig:={params:=[.val .ro (.sl 1),.val .pr (.int .i64)],boxes:=[],outs:=[]}
def S76:Sig:={params:=[.ptr 0 0],boxes:=[[.fix (.sl 7),.fix (.sl 1),.val (.own true) (.sl 1),.val .pr (.int .i64)]],outs:=[(.pr,.bool)]}
def S77:Sig:={params:=[.ptr 0 0,.val .pr (.int .i64)],boxes:=[[.fix (.sl 7),.fix (.sl 1),.val (.own true) (.sl 1),.val .pr (.int .i64)]],outs:=[]}
def S78:Sig:={params:=[.val .ro (.sl 7),.val .pr (.int .i64)],boxes:=[],outs:=[(.ro,.sl 1)]}
def S79:Sig:={params:=[.val .ro (.sl 1),.val .pr (.int .i64),.val .pr (.int .i64)],boxes:=[],outs:=[]}
def S80:Sig:={params:=[.val .ro (.sl 1),.val .pr (.int .i64),.val .pr (.int .i64)],boxes:=[],outs:=[]}
def S81:Sig:={params:=[.val .ro (.sl 1),.val .pr (.int .i64),.val .pr (.int .i64)],boxes:=[],outs:=[]}
def S82:Sig:={params:=[.val .ro (.sl 1),.val .pr (.int .i64),.val .pr (.int .i64)],boxes:=[],outs:=[(.pr,.int .i64),(.pr,.int .i64)]}
def S83:Sig:={params:=[.val .ro (.sl 1),.val .pr (.int .i64),.val .pr (.int .i64)],boxes:=[],outs:=[]}
def S84:Sig:={params:=[.val .ro (.sl 1),.val .pr (.int .i64),.val .pr (.int .i64)],boxes:=[],outs:=[(.pr,.bool)]}
def S85:Sig:={params:=[.val .ro (.sl 1),.val .pr (.int .i64),.val .pr (.int .i64),.val .pr (.int .i64)],boxes:=[],outs:=[(.pr,.int .i64)]}
def S86:Sig:={params:=[.val .ro (.sl 1),.val .pr (.int .i64),.val .pr (.int .i64),.val .pr (.int .i64)],boxes:=[],outs:=[(.pr,.int .i64),(.pr,.bool)]}
def S87:Sig:={params:=[.val .pr (.int .u32)],boxes:=[],outs:=[(.pr,.int .i64)]}
def S88:Sig:={params:=[.val .pr (.int .u64)],boxes:=[],outs:=[(.pr,.int .i64)]}
def S89:Sig:={params:=[.val .ro (.agg [.int .u64,.int .u64]),.val .pr (.int .i64)],boxes:=[],outs:=[(.ro,.agg [.int .u64,.int .u64])]}
def S90:Sig:={params:=[.ptr 0 0,.val .pr (.int .i64)],boxes:=[[.fix (.sl 4),.ptr 1 0,.val .pr (.int .u64),.val .pr (.int .u64),.val .pr (.int .i64),.val (.own true) (.sl 1),.val (.own true) (.sl 1),.val .pr (.int .i64)],[.val .pr (.int .i64),.val (.own true) (.sl 1),.val (.own true) (.sl 2),.val (.own true) (.sl 4),.val .pr (.int .i64),.val .pr (.int .i64)]],outs:=[]}
def S91:Sig:={params:=[.val .pr .bool],boxes:=[],outs:=[(.pr,.int .i64)]}
def S92:Sig:={params:=[.val .ro (.agg [.int .u64,.int .u64]),.val .pr (.int .i64)],boxes:=[],outs:=[(.pr,.bool)]}
def S93:Sig:={params:=[.val .pr (.int .i64),.val .pr (.int .i64)],boxes:=[],outs:=[(.pr,.int .i64)],pan:=true}
def S94:Sig:={params:=[.val .pr (.int .i64)],boxes:=[],outs:=[(.pr,.int .i64),(.pr,.int .i64)]}
def S95:Sig:={params:=[.ptr 0 0],boxes:=[[.fix (.sl 4),.ptr 1 0,.val .pr (.int .u64),.val .pr (.int .u64),.val .pr (.int .i64),.val (.own true) (.sl 1),.val (.own true) (.sl 1),.val .pr (.int .i64)],[.val .pr (.int .i64),.val (.own true) (.sl 1),.val (.own true) (.sl 2),.val (.own true) (.sl 4),.val .pr (.int .i64),.val .pr (.int .i64)]],outs:=[(.pr,.int .i64)]}
def S96:Sig:={params:=[.ptr 0 0,.val .ro (.agg [.int .i64,.int .i64,.int .i64,.str])],boxes:=[[.fix (.sl 4),.ptr 1 0,.val .pr (.int .u64),.val .pr (.int .u64),.val .pr (.int .i64),.val (.own true) (.sl 1),.val (.own true) (.sl 1),.val .pr (.int .i64)],[.val .pr (.int .i64),.val (.own true) (.sl 1),.val (.own true) (.sl 2),.val (.own true) (.sl 4),.val .pr (.int .i64),.val .pr (.int .i64)]],outs:=[],pan:=true}
def S97:Sig:={params:=[.ptr 0 0,.val .ro (.agg [.int .i64,.int .i64,.int .i64,.str])],boxes:=[[.fix (.sl 4),.ptr 1 0,.val .pr (.int .u64),.val .pr (.int .u64),.val .pr (.int .i64),.val (.own true) (.sl 1),.val (.own true) (.sl 1),.val .pr (.int .i64)],[.val .pr (.int .i64),.val (.own true) (.sl 1),.val (.own true) (.sl 2),.val (.own true) (.sl 4),.val .pr (.int .i64),.val .pr (.int .i64)]],outs:=[]}
def S98:Sig:={params:=[.val .pr (.int .i64),.val .pr (.int .i64),.val .pr (.int .i64)],boxes:=[],outs:=[(.pr,.int .i64)],pan:=true}
def S99:Sig:={params:=[.val .pr (.int .i64)],boxes:=[],outs:=[(.pr,.bool)]}
def S100:Sig:={params:=[.val .ro (.sl 1),.val .pr (.int .i64)],boxes:=[],outs:=[]}
def S101:Sig:={params:=[.ptr 0 0,.val .pr (.int .i64)],boxes:=[[.fix (.sl 7),.fix (.sl 1),.val (.own true) (.sl 1),.val .pr (.int .i64)]],outs:=[(.pr,.bool)]}
def S102:Sig:={params:=[.val .ro (.sl 7),.val .pr (.int .i64)],boxes:=[],outs:=[((.own true),.sl 1)]}
def S103:Sig:={params:=[.val .pr (.int .i64),.ptr 0 0],boxes:=[[.fix (.sl 7)]],outs:=[(.pr,.bool)]}
def S104:Sig:={params:=[.val .ro (.sl 1),.val .pr (.int .i64),.val .pr (.int .i64),.val .pr (.int .i64)],boxes:=[],outs:=[]}
def S105:Sig:={params:=[.val .pr (.int .i64)],boxes:=[],outs:=[(.pr,.int .u64)]}
def S106:Sig:={params:=[.ptr 0 0],boxes:=[[.val .pr (.int .u64)]],outs:=[(.pr,.int .u64)]}
def S107:Sig:={params:=[.val .ro (.sl 1),.val .pr (.int .i64),.ptr 0 0],boxes:=[[.val .pr (.int .i64)]],outs:=[(.pr,.int .i64)]}
def S108:Sig:={params:=[.val .ro (.sl 1),.val .pr (.int .i64),.val .pr (.int .i64),.val .pr (.int .i64),.ptr 0 0],boxes:=[[.val .pr (.int .i64)]],outs:=[(.pr,.int .i64)]}
def S109:Sig:={params:=[.val .pr (.int .i64)],boxes:=[],outs:=[(.pr,.bool)]}
def S110:Sig:={params:=[.val .pr (.int .i64),.val .pr (.int .i64)],boxes:=[],outs:=[(.pr,.int .i64),(.pr,.int .i64)]}
def S111:Sig:={params:=[.ptr 0 0,.val .pr (.int .i64),.val .pr (.int .i64),.val .ro (.agg [.str,.int .i64])],boxes:=[[.fix (.sl 4),.ptr 1 0,.val .pr (.int .u64),.val .pr (.int .u64),.val .pr (.int .i64),.val (.own true) (.sl 1),.val (.own true) (.sl 1),.val .pr (.int .i64)],[.val .pr (.int .i64),.val (.own true) (.sl 1),.val (.own true) (.sl 2),.val (.own true) (.sl 4),.val .pr (.int .i64),.val .pr (.int .i64)]],outs:=[]}
def S112:Sig:={params:=[.val .pr (.int .i64),.val .pr (.int .i64)],boxes:=[],outs:=[(.pr,.int .i64),(.pr,.int .i64)]}
def S113:Sig:={params:=[.val .pr (.int .i64),.val .pr (.int .i64)],boxes:=[],outs:=[(.pr,.int .i64),(.pr,.int .i64)]}
def S114:Sig:={params:=[.val .pr (.int .i64),.val .pr (.int .i64)],boxes:=[],outs:=[(.pr,.int .i64),(.pr,.int .i64)]}
def S115:Sig:={params:=[.val .pr (.int .i64),.val .pr (.int .i64)],boxes:=[],outs:=[(.pr,.int .i64),(.pr,.int .i64)]}
def S116:Sig:={params:=[.val .ro (.sl 1),.val .pr (.int .i64),.val .pr (.int .i64),.ptr 0 0],boxes:=[[.val .pr (.int .i64)]],outs:=[(.pr,.int .i64),(.pr,.int .i64)]}
def S65562:Sig:={params:=[.val (.own true) (.sl 1),.clo 27 [(0,0)]],boxes:=[[.val .pr (.int .i64)]],outs:=[((.own true),.sl 1)]}
def S65578:Sig:={params:=[.val .ro (.sl 1),.clo 43 [(0,0),(1,0)]],boxes:=[[.fix (.sl 7)],[.val .pr (.int .i64)]],outs:=[(.pr,.bool)]}
def S65587:Sig:={params:=[.val .ro (.sl 1),.clo 27 [(0,0)]],boxes:=[[.val .pr (.int .i64)]],outs:=[(.pr,.int .i64)]}
def S131098:Sig:={params:=[.val (.own true) (.sl 1),.clo 64 [(0,0),(2,0)]],boxes:=[[.ptr 1 0],[.val .pr .str,.val .pr (.int .i64),.val .pr (.int .i64),.fix (.sl 1),.fix (.sl 1),.fix (.sl 1),.fix (.sl 7),.fix (.sl 6),.fix (.sl 1),.fix (.sl 1),.fix (.sl 1),.fix (.sl 1),.val .pr (.int .i64),.fix .any,.fix .any,.fix (.sl 2),.val .pr (.int .i64)],[.val .pr (.int .i64),.val .pr (.int .i64),.val .pr (.int .i64),.val .pr (.int .i64),.val .pr (.int .i64),.val .pr .str]],outs:=[((.own true),.sl 1)]}
def S131123:Sig:={params:=[.val .ro (.sl 1),.clo 43 [(0,0),(1,0)]],boxes:=[[.fix (.sl 7)],[.val .pr (.int .i64)]],outs:=[(.pr,.int .i64)]}
def S196634:Sig:={params:=[.val (.own true) (.sl 1),.clo 103 [(0,0)]],boxes:=[[.fix (.sl 7)]],outs:=[((.own true),.sl 1)]}
def S196659:Sig:={params:=[.val .ro (.sl 1),.clo 64 [(0,0),(2,0)]],boxes:=[[.ptr 1 0],[.val .pr .str,.val .pr (.int .i64),.val .pr (.int .i64),.fix (.sl 1),.fix (.sl 1),.fix (.sl 1),.fix (.sl 7),.fix (.sl 6),.fix (.sl 1),.fix (.sl 1),.fix (.sl 1),.fix (.sl 1),.val .pr (.int .i64),.fix .any,.fix .any,.fix (.sl 2),.val .pr (.int .i64)],[.val .pr (.int .i64),.val .pr (.int .i64),.val .pr (.int .i64),.val .pr (.int .i64),.val .pr (.int .i64),.val .pr .str]],outs:=[(.pr,.int .i64)]}
def S262195:Sig:={params:=[.val .ro (.sl 1),.clo 103 [(0,0)]],boxes:=[[.fix (.sl 7)]],outs:=[(.pr,.int .i64)]}
def TAB:Tab:={tys:=[(2,T2),(3,T3),(4,T4),(5,T5),(6,T6),(7,T7),(8,T8),(9,T9),(10,T10),(23,T23),(24,T24),(25,T25),(26,T26),(28,T28),(29,T29),(30,T30),(32,T32),(33,T33),(34,T34),(35,T35),(37,T37),(38,T38),(40,T40),(41,T41),(43,T43),(46,T46),(51,T51),(53,T53),(58,T58),(62,T62),(64,T64),(65,T65),(67,T67),(74,T74),(77,T77),(78,T78),(80,T80),(81,T81),(90,T90),(92,T92),(102,T102),(104,T104),(110,T110),(111,T111),(113,T113),(124,T124),(125,T125),(126,T126),(127,T127),(128,T128),(130,T130),(133,T133),(140,T140),(147,T147),(157,T157),(161,T161),(165,T165)],sigs:=[(3,S3),(4,S4),(5,S5),(6,S6),(7,S7),(8,S8),(9,S9),(10,S10),(11,S11),(12,S12),(13,S13),(14,S14),(15,S15),(16,S16),(17,S17),(18,S18),(19,S19),(20,S20),(21,S21),(22,S22),(23,S23),(24,S24),(25,S25),(27,S27),(28,S28),(29,S29),(30,S30),(31,S31),(32,S32),(33,S33),(34,S34),(35,S35),(36,S36),(37,S37),(38,S38),(39,S39),(40,S40),(41,S41),(43,S43),(44,S44),(45,S45),(46,S46),(47,S47),(48,S48),(49,S49),(50,S50),(52,S52),(53,S53),(54,S54),(55,S55),(56,S56),(57,S57),(58,S58),(59,S59),(60,S60),(61,S61),(62,S62),(63,S63),(64,S64),(65,S65),(66,S66),(67,S67),(68,S68),(69,S69),(70,S70),(71,S71),(72,S72),(73,S73),(75,S75),(76,S76),(77,S77),(78,S78),(79,S79),(80,S80),(81,S81),(82,S82),(83,S83),(84,S84),(85,S85),(86,S86),(87,S87),(88,S88),(89,S89),(90,S90),(91,S91),(92,S92),(93,S93),(94,S94),(95,S95),(96,S96),(97,S97),(98,S98),(99,S99),(100,S100),(101,S101),(102,S102),(103,S103),(104,S104),(105,S105),(106,S106),(107,S107),(108,S108),(109,S109),(110,S110),(111,S111),(112,S112),(113,S113),(114,S114),(115,S115),(116,S116),(65562,S65562),(65578,S65578),(65587,S65587),(131098,S131098),(131123,S131123),(196634,S196634),(196659,S196659),(262195,S262195)],takes:=[(10,21,4),(16,2,3),(16,16,3),(22,7,7),(23,0,1),(23,11,1),(24,0,0),(24,11,5),(24,18,1),(25,2,2),(25,3,7),(25,4,7),(28,5,6),(29,0,0),(29,13,2),(32,4,5),(32,7,3),(32,11,3),(37,9,5),(40,0,0),(40,2,0),(40,3,3),(41,0,0),(41,2,0),(41,3,3),(46,0,0),(46,2,1),(46,15,3),(46,16,1),(50,12,0),(53,0,0),(53,4,1),(53,7,3),(53,12,1),(53,17,1),(53,20,1),(57,0,0),(57,8,1),(58,0,0),(58,3,2),(95,2,11),(97,6,6),(102,0,0),(102,8,1),(65562,0,0),(65562,3,1),(65562,12,2),(65562,12,3),(131098,0,0),(131098,3,1),(131098,12,2),(131098,12,3),(196634,0,0),(196634,3,1),(196634,12,2),(196634,12,3)],varis:=[(5,3,5,1),(5,9,9,1),(5,10,5,1),(10,21,6,1),(23,5,2,1),(23,6,3,3),(23,10,1,1005),(25,1,12,5),(37,9,7,2),(40,2,0,2),(40,3,2,3),(41,2,0,2),(41,3,2,3),(78,1,4,3),(65562,1,2,1),(65562,11,2,4),(65578,1,2,2),(131098,1,2,3),(131098,11,2,4),(196634,1,2,4),(196634,11,2,4)],panT:=102,keeps:=[(50,[8])]}
theorem TAB_chk:TAB.chk Try.prog=true:=by kernel_rfl
theorem MO:Try.prog.follows .mixedOrders=true:=by kernel_rfl
abbrev TL {R:Type} (f:FuncId) (g:LV→(LV→OV R)→OV R):Prop:=Tells Try.prog TAB f g
abbrev J0:List Kd:=[.int .i64,.bool,.sl 7,.sl 1]
abbrev J1:List Kd:=[.int .i64,.bool,.int .i64,.sl 7,.sl 1,.int .i64]
abbrev J2:List Kd:=[.int .u8,.int .i64,.bool]
def B0:List PCell:=[.var .str .pr false,.var (.int .i64) .pr false,.var (.int .i64) .pr false,.var (.sl 1) .ro false,.var (.sl 1) .ro false,.var (.sl 1) .ro false,.var (.sl 7) .ro false,.var (.sl 6) .ro false,.var (.sl 1) .ro false]
abbrev J7:List Kd:=[.bool]
abbrev J10:List Kd:=[.agg [.str,.int .i64,.int .i64,.sl 1,.sl 1,.sl 1,.sl 7,.sl 6,.sl 1],.agg [.sl 1,.sl 1,.sl 1],.agg [.str,.int .i64]]
abbrev J11:List Kd:=[]
abbrev J12:List Kd:=[.sl 7,.sl 1,.int .i64]
abbrev J13:List Kd:=[.sl 7,.sl 1]
abbrev J14:List Kd:=[.int .i64]
abbrev J22:List Kd:=[.sl 1,.sl 1,.int .i64]
abbrev J23:List Kd:=[.sl 1,.sl 1]
def B4:List PCell:=[.var .str .pr false,.var (.int .i64) .pr false,.var (.int .i64) .pr false,.var (.sl 1) .ro true,.var (.sl 1) .ro true,.var (.sl 1) .ro true,.var (.sl 7) .ro true,.var (.sl 6) .ro true,.var (.sl 1) .ro true,.var (.sl 1) .ro true,.var (.sl 1) .ro true,.var (.sl 1) .ro true,.var (.int .i64) .pr false,.var .any (.own true) false,.var .any (.own true) false,.var .any (.own true) false,.var (.int .i64) .pr false]
def B5:List PCell:=[.var (.sl 1) (.own true) false,.var (.sl 2) (.own true) false,.var (.int .i64) .pr false]
abbrev J25:List Kd:=[.sl 1,.str,.int .i64,.int .i64,.sl 1,.sl 1,.sl 1,.sl 7,.sl 6,.sl 1,.sl 1,.sl 1,.sl 1,.int .i64,.any,.any,.any,.int .i64,.sl 1,.sl 2,.int .i64]
abbrev J26:List Kd:=[.str,.sl 1,.sl 1,.int .i64,.int .i64,.str,.int .i64,.int .i64,.sl 1,.sl 1,.sl 1,.sl 7,.sl 6,.sl 1,.sl 1,.sl 1,.sl 1,.int .i64,.any,.any,.any,.int .i64,.sl 1,.sl 2,.int .i64]
abbrev J27:List Kd:=[.str,.int .i64,.int .i64,.sl 1,.sl 1,.sl 1,.sl 7,.sl 6,.sl 1,.sl 1,.sl 1,.sl 1,.int .i64,.any,.any,.any,.int .i64,.sl 1,.sl 2,.int .i64]
abbrev J28:List Kd:=[.sl 1,.int .i64,.int .i64,.str,.int .i64,.int .i64,.sl 1,.sl 1,.sl 1,.sl 7,.sl 6,.sl 1,.sl 1,.sl 1,.sl 1,.int .i64,.any,.any,.any,.int .i64,.sl 1,.sl 2,.int .i64]
abbrev J29:List Kd:=[.str,.bool,.str,.int .i64,.int .i64,.sl 1,.sl 1,.sl 1,.sl 7,.sl 6,.sl 1,.sl 1,.sl 1,.sl 1,.int .i64,.any,.any,.any,.int .i64]
abbrev J30:List Kd:=[.sl 1,.int .i64,.int .i64]
abbrev J31:List Kd:=[.sl 1,.int .i64]
abbrev J32:List Kd:=[.sl 7,.int .i64]
abbrev J33:List Kd:=[.agg [.int .i64,.int .i64,.int .i64,.int .i64,.int .i64,.int .i64,.str]]
abbrev J34:List Kd:=[.sl 1]
abbrev J35:List Kd:=[.sl 7,.sl 1,.sl 1,.int .i64]
abbrev J45:List Kd:=[.int .i64,.int .i64]
abbrev J57:List Kd:=[.sl 7,.sl 1,.sl 1,.int .i64,.int .i64]
def B16:List PCell:=[.var .str .pr false,.var (.int .i64) .pr false,.var (.int .i64) .pr false,.var (.sl 1) .ro true,.var (.sl 1) .ro true,.var (.sl 1) .ro true,.var (.sl 7) .ro true,.var (.sl 6) .ro true,.var (.sl 1) .ro true,.var (.sl 1) .ro true,.var (.sl 1) .ro true,.var (.sl 1) .ro true,.var (.int .i64) .pr false,.var .any (.own true) false,.var (.sl 1) (.own true) false,.var (.sl 2) (.own true) false,.var (.int .i64) .pr false]
abbrev J58:List Kd:=[.int .i64,.str,.int .i64,.str,.int .i64,.int .i64,.sl 1,.sl 1,.sl 1,.sl 7,.sl 6,.sl 1,.sl 1,.sl 1,.sl 1,.int .i64,.any,.sl 1,.sl 2,.int .i64]
abbrev J59:List Kd:=[.int .i64,.str,.int .i64,.int .i64,.sl 1,.sl 1,.sl 1,.sl 7,.sl 6,.sl 1,.sl 1,.sl 1,.sl 1,.int .i64,.any,.sl 1,.sl 2,.int .i64]
abbrev J60:List Kd:=[.int .i64,.str,.int .i64,.sl 6,.int .i64,.int .i64,.str,.int .i64,.int .i64,.sl 1,.sl 1,.sl 1,.sl 7,.sl 6,.sl 1,.sl 1,.sl 1,.sl 1,.int .i64,.any,.sl 1,.sl 2,.int .i64]
abbrev J61:List Kd:=[.str,.int .i64,.int .i64,.sl 1,.sl 1,.sl 1,.sl 7,.sl 6,.sl 1,.sl 1,.sl 1,.sl 1,.int .i64,.any,.sl 1,.sl 2,.int .i64]
abbrev J62:List Kd:=[.int .i64,.str,.str,.int .i64,.int .i64,.sl 1,.sl 1,.sl 1,.sl 7,.sl 6,.sl 1,.sl 1,.sl 1,.sl 1,.int .i64,.any,.sl 1,.sl 2,.int .i64]
def B17:List PCell:=[.stat ⟨(.ptr 0 0),.pt,0,false⟩]
def B18:List PCell:=[.var (.int .i64) .pr false,.var (.int .i64) .pr false,.var (.int .i64) .pr false,.var (.int .i64) .pr false,.var (.int .i64) .pr false,.var .str .pr false]
abbrev J63:List Kd:=[.int .i64,.str,.int .i64,.int .i64,.sl 1,.sl 1,.sl 1,.sl 7,.sl 6,.sl 1,.sl 1,.sl 1,.sl 1,.int .i64,.any,.sl 1,.sl 2,.int .i64,.int .i64,.int .i64,.int .i64,.int .i64,.int .i64,.str]
abbrev J64:List Kd:=[.int .i64,.int .i64,.int .i64,.str,.int .i64,.int .i64,.sl 1,.sl 1,.sl 1,.sl 7,.sl 6,.sl 1,.sl 1,.sl 1,.sl 1,.int .i64,.any,.sl 1,.sl 2,.int .i64,.int .i64,.int .i64,.int .i64,.int .i64,.int .i64,.str]
abbrev J65:List Kd:=[.sl 1,.sl 1,.sl 1,.int .i64]
abbrev J66:List Kd:=[.sl 7,.int .i64,.sl 1,.int .i64]
abbrev J68:List Kd:=[.sl 7,.int .i64,.int .i64]
def B19:List PCell:=[.var (.int .i64) .pr false,.var (.sl 1) (.own true) false,.var (.sl 2) (.own true) false,.var (.sl 4) (.own true) false,.var (.int .i64) .pr false,.var (.int .i64) .pr false]
def B20:List PCell:=[.var (.sl 4) .ro false,.stat ⟨(.ptr 8 0),.pt,0,false⟩,.var (.int .u64) .pr false,.var (.int .u64) .pr false,.var (.int .i64) .pr false,.var (.sl 1) (.own true) false,.var (.sl 1) (.own true) false,.var (.int .i64) .pr false]
abbrev J70:List Kd:=[.int .i64,.sl 1,.sl 2,.sl 4,.int .i64,.int .i64,.sl 4,.int .u64,.int .u64,.int .i64,.sl 1,.sl 1,.int .i64]
abbrev J71:List Kd:=[.int .i64,.sl 1,.sl 2,.sl 4,.int .i64,.int .i64]
abbrev J72:List Kd:=[.sl 4,.int .i64,.int .i64,.sl 1,.sl 2,.sl 4,.int .i64,.int .i64,.sl 4,.int .u64,.int .u64,.int .i64,.sl 1,.sl 1,.int .i64]
abbrev J73:List Kd:=[.sl 4,.agg [.sl 1,.sl 1,.sl 1],.int .i64,.int .i64]
abbrev J74:List Kd:=[.sl 1,.int .i64,.int .i64,.int .i64]
abbrev J87:List Kd:=[.int .i64,.str,.int .i64,.int .i64,.sl 1,.sl 1,.sl 1,.sl 7,.sl 6,.sl 1,.sl 1,.sl 1,.sl 1,.int .i64,.any,.any,.sl 2,.int .i64,.int .i64,.int .i64,.int .i64,.int .i64,.int .i64,.str]
abbrev J88:List Kd:=[.sl 7,.agg [.int .i64,.int .i64,.int .i64,.int .i64,.int .i64,.str],.agg [.int .i64,.int .i64,.int .i64,.int .i64,.int .i64,.str]]
def B22:List PCell:=[.var (.int .u64) .pr false,.var (.int .u64) .pr false]
abbrev J91:List Kd:=[.int .u64,.int .u64,.int .u64,.int .u64]
abbrev J92:List Kd:=[.sl 1,.int .i64,.int .i64,.int .u64,.int .u64,.int .u64,.int .u64]
abbrev J93:List Kd:=[.agg [.int .i64,.int .i64,.int .i64,.str],.sl 4,.int .u64,.int .u64,.int .i64,.sl 1,.sl 1,.int .i64,.int .i64,.sl 1,.sl 2,.sl 4,.int .i64,.int .i64]
abbrev J96:List Kd:=[.agg [.int .u64,.int .u64],.int .i64]
abbrev J97:List Kd:=[.int .i64,.sl 4,.int .u64,.int .u64,.int .i64,.sl 1,.sl 1,.int .i64,.int .i64,.sl 1,.sl 2,.sl 4,.int .i64,.int .i64]
abbrev J98:List Kd:=[.sl 4,.int .u64,.int .u64,.int .i64,.sl 1,.sl 1,.int .i64,.int .i64,.sl 1,.sl 2,.sl 4,.int .i64,.int .i64]
abbrev J99:List Kd:=[.int .i64,.int .i64,.int .i64]
abbrev J103:List Kd:=[.int .i64,.int .i64,.agg [.str,.int .i64],.sl 4,.int .u64,.int .u64,.int .i64,.sl 1,.sl 1,.int .i64,.int .i64,.sl 1,.sl 2,.sl 4,.int .i64,.int .i64]
def B23:List PCell:=[.stat ⟨(.ptr 1 0),.pt,0,true⟩]
def B24:List PCell:=[.var .str .pr false,.var (.int .i64) .pr false,.var (.int .i64) .pr false,.var (.sl 1) .ro true,.var (.sl 1) .ro true,.var (.sl 1) .ro true,.var (.sl 7) .ro true,.var (.sl 6) .ro true,.var (.sl 1) .ro true,.var (.sl 1) .ro true,.var (.sl 1) .ro true,.var (.sl 1) .ro true,.var (.int .i64) .pr false,.var .any .ro true,.var .any .ro true,.var (.sl 2) .ro true,.var (.int .i64) .pr false]
abbrev J105:List Kd:=[.sl 1,.int .i64,.str,.int .i64,.int .i64,.sl 1,.sl 1,.sl 1,.sl 7,.sl 6,.sl 1,.sl 1,.sl 1,.sl 1,.int .i64,.any,.any,.sl 2,.int .i64,.int .i64,.int .i64,.int .i64,.int .i64,.int .i64,.str]
abbrev J106:List Kd:=[.sl 1,.int .i64,.int .i64,.str,.int .i64,.int .i64,.sl 1,.sl 1,.sl 1,.sl 7,.sl 6,.sl 1,.sl 1,.sl 1,.sl 1,.int .i64,.any,.any,.sl 2,.int .i64,.int .i64,.int .i64,.int .i64,.int .i64,.int .i64,.str]
abbrev J107:List Kd:=[.sl 1,.str,.int .i64,.int .i64,.sl 1,.sl 1,.sl 1,.sl 7,.sl 6,.sl 1,.sl 1,.sl 1,.sl 1,.int .i64,.any,.any,.sl 2,.int .i64,.int .i64,.int .i64,.int .i64,.int .i64,.int .i64,.str]
abbrev J112:List Kd:=[.str,.int .i64,.int .i64,.sl 1,.sl 1,.sl 1,.sl 7,.sl 6,.sl 1,.sl 1,.sl 1,.sl 1,.int .i64,.any,.any,.sl 2,.int .i64,.int .i64,.int .i64,.int .i64,.int .i64,.int .i64,.str]
set_option maxHeartbeats 4000000
def P3_0h:Pat:={tmps:=unds [pU,pI,.var .bool .pr,pU,pU,pU,pU,pI,.var (.sl 7) (.own true),.var (.sl 1) (.own true),pI] 122 [],boxes:=nons [] 133 []}
def P3_0x:Pat:={tmps:=unds [pU,pI,.var .bool .pr] 5 (unds [.var (.sl 7) (.own true),.var (.sl 1) (.own true)] 123 []),boxes:=nons [] 133 []}
def b3_0{R:Type}(G:ORC R)(k:Nat)(X:Cu R J1)(Ko:Cu R J0)(a:Int)(b:Bool)(c:Int)(d e:LV)(f:Int):OV R:=
 (bif(decide (f<c))then(bif(decide (List.length d+1≤1073741824))then(bif(decide (List.length e+1≤1073741824))then(X a b c (d++[(.agg [(.int .i64 1),(.int .i64 1),(.int .i64 (IntKind.i64.wrap (f+2))),(.int .i64 (-1)),(.int .i64 (-1)),(.int .i64 (-1)),(.str ⟨List.toArray [(Nat.toUInt8 (Int.toNat (IntKind.u8.wrap (IntKind.i64.wrap (97+f)))))]⟩)])]) (e++[(.int .i64 (IntKind.i64.wrap (f+2)))]) (IntKind.i64.wrap (f+1)))else none)else none)else(Ko a b d e))
def l3_0g{R:Type}(G:ORC R)(k:Nat)(Ko:Cu R J0)(j:Nat):Cu R J1:=lup J1 (fun X=>b3_0 G k X Ko) j
def l3_0{R:Type}(G:ORC R)(k:Nat)(a:Int)(b:Bool)(c:Int)(d e:LV)(f:Int)(Ko:Cu R J0):OV R:=l3_0g G k Ko k a b c d e f
abbrev c3_4 {R:Type} (G:ORC R) (k:Nat) (K:LV→OV R) (a:LV) (b:Int):OV R:=
 (bif(!(((a.length:Int)==1)==(b==0)))then(K [.bool false])else(bif(!(b==0))then(G 8 [] fun b=>uB b fun b c=>unNil c (K [.bool b]))else(bif(decide (0<(a.length:Int)))then(nthK a 0 fun a=>V.asAgg a fun a=>ce2 a fun a b=>V.asStr a fun a=>V.asInt b fun b c=>bif((decide (b= .i64))&&true)then(bif((ByteArray.toList a==ByteArray.toList ⟨#[101,114,114,111,114]⟩)&&((c==3)&&true))then(G 8 [] fun a=>uB a fun a b=>unNil b (K [.bool a]))else(K [.bool false]))else none)else none)))
abbrev c3_2 {R:Type} (G:ORC R) (k:Nat) (K:LV→OV R) (a b:LV) (c:Int) (d e:LV) (f:Int):OV R:=
 (G 7 [.sl 7 a,.sl 1 b] fun a=>uB a fun a b=>unNil b (bif(!a)then(K [.bool false])else(bif(c !=3)then(K [.bool false])else(bif(!(((d.length:Int)==1)==true))then(K [.bool false])else(c3_4 G k K e f)))))
abbrev c3_1 {R:Type} (G:ORC R) (k:Nat) (K:LV→OV R) (a:Bool) (b c:LV) (d:Int) (e:LV) (f:Int) (g:LV):OV R:=
 (bif(!a)then(G 7 [.sl 7 b,.sl 1 c] fun a=>uB a fun a h=>unNil h (bif(!a)then(K [.bool false])else(bif(d !=3)then(K [.bool false])else(bif(!(((e.length:Int)==1)==(decide (f<1))))then(K [.bool false])else(c3_4 G k K g f)))))else(G 7 [.sl 7 b,.sl 1 c] fun a=>uB a fun a b=>unNil b (bif(!a)then(K [.bool false])else(bif(d !=3)then(K [.bool false])else(bif(!(((e.length:Int)==1)==false))then(K [.bool false])else(c3_4 G k K g f))))))
abbrev c3_6 {R:Type} (G:ORC R) (k:Nat) (K:LV→OV R) (a:LV):OV R:=
 (bif(!(((a.length:Int)==1)==false))then(K [.bool false])else(G 8 [] fun a=>uB a fun a b=>unNil b (K [.bool a])))
abbrev c3_5 {R:Type} (G:ORC R) (k:Nat) (K:LV→OV R) (a b:LV) (c:Int) (d e:LV):OV R:=
 (G 7 [.sl 7 a,.sl 1 b] fun a=>uB a fun a b=>unNil b (bif(!a)then(K [.bool false])else(bif(c !=3)then(K [.bool false])else(bif(!(((d.length:Int)==1)==true))then(K [.bool false])else(c3_6 G k K e)))))
abbrev c3_3 {R:Type} (G:ORC R) (k:Nat) (K:LV→OV R) (a:Bool) (b c:LV) (d:Int) (e:LV) (f:Int) (g:LV):OV R:=
 (bif(!a)then(G 7 [.sl 7 b,.sl 1 c] fun a=>uB a fun a h=>unNil h (bif(!a)then(K [.bool false])else(bif(d !=3)then(K [.bool false])else(bif(!(((e.length:Int)==1)==(decide (f<1))))then(K [.bool false])else(c3_6 G k K g)))))else(G 7 [.sl 7 b,.sl 1 c] fun a=>uB a fun a b=>unNil b (bif(!a)then(K [.bool false])else(bif(d !=3)then(K [.bool false])else(bif(!(((e.length:Int)==1)==false))then(K [.bool false])else(c3_6 G k K g))))))
abbrev c3_0 {R:Type} (G:ORC R) (k:Nat) (K:LV→OV R) (a:LV) (b:Bool) (c:Int) (d e:LV):OV R:=
 (uA a fun a f=>uL 1 a fun a g=>uL 2 g fun g h=>uI .i64 h fun h i=>unNil i (unNil f (bif b then(bif b then(bif(c==1)then(c3_2 G k K d e h a g c)else(bif(c==(-1))then(c3_2 G k K d e h a g c)else(c3_1 G k K b d e h a c g)))else(c3_1 G k K b d e h a c g))else(bif b then(bif(c==1)then(c3_5 G k K d e h a g)else(bif(c==(-1))then(c3_5 G k K d e h a g)else(c3_3 G k K b d e h a c g)))else(c3_3 G k K b d e h a c g)))))
def L3{R:Type}(G:ORC R)(k:Nat):Nat→St→(Ex→St→OV R)→OV R
 |0,S,K=>P3_0h.mat S fun vs=>uc J1 (l3_0g G k (koX J0 P3_0x K) k) vs none
 |_,_,_=>none
def f3{R:Type}(G:ORC R)(k:Nat)(a b:Int)(c:Bool)(K:LV→OV R):OV R:=
 (l3_0 G k b c (IntKind.i64.wrap (2+(Int.tmod (IntKind.i64.wrap a) 5))) [.agg [.int .i64 2,.int .i64 (-1),.int .i64 (IntKind.i64.wrap ((IntKind.i64.wrap (2+(Int.tmod (IntKind.i64.wrap a) 5)))+1)),.int .i64 1,.int .i64 (-1),.int .i64 (-1),.str ⟨#[]⟩],.agg [.int .i64 3,.int .i64 0,.int .i64 (IntKind.i64.wrap ((IntKind.i64.wrap (2+(Int.tmod (IntKind.i64.wrap a) 5)))+1)),.int .i64 (-1),.int .i64 (-1),.int .i64 (-1),.str ⟨#[112]⟩]] [.int .i64 0,.int .i64 1] 0 (fun a b c d=>bif b then(G 6 [.agg [.str ⟨#[99]⟩,.int .i64 2,.int .i64 9,.sl 1 [.int .i64 a],.sl 1 [],.sl 1 [],.sl 7 c,.sl 6 [.agg [.int .i64 1,.int .i64 (-1),.int .i64 (-1),.int .i64 0,.int .i64 (-1),.str ⟨#[101]⟩]],.sl 1 [.sl 4 [.agg [.int .i64 1,.int .i64 0,.int .i64 1,.str ⟨#[]⟩],.agg [.int .i64 2,.int .i64 0,.int .i64 0,.str ⟨#[]⟩],.agg [.int .i64 8,.int .i64 0,.int .i64 0,.str ⟨#[]⟩]]]],.agg [.sl 1 d,.sl 1 [.int .i64 a],.sl 1 []],.agg [.str ⟨#[101]⟩,.int .i64 0]] fun e=>c3_0 G k K e b a c d)else(G 6 [.agg [.str ⟨#[99]⟩,.int .i64 2,.int .i64 9,.sl 1 [.int .i64 a],.sl 1 [],.sl 1 [],.sl 7 c,.sl 6 [.agg [.int .i64 1,.int .i64 (-1),.int .i64 (-1),.int .i64 0,.int .i64 (-1),.str ⟨#[101]⟩]],.sl 1 [.sl 4 [.agg [.int .i64 1,.int .i64 0,.int .i64 1,.str ⟨#[]⟩],.agg [.int .i64 2,.int .i64 0,.int .i64 0,.str ⟨#[]⟩],.agg [.int .i64 14,.int .i64 0,.int .i64 0,.str ⟨#[]⟩]]]],.agg [.sl 1 d,.sl 1 [.int .i64 a],.sl 1 []],.agg [.str ⟨#[101]⟩,.int .i64 0]] fun e=>c3_0 G k K e b a c d)))
abbrev g3 {R:Type} (G:ORC R) (k:Nat):LV→(LV→OV R)→OV R:=gF J2 (f3 G k)
theorem s3{R:Type}{G:ORC R}{k:Nat}(hG:Sound Try.prog TAB G):TL 3 (g3 G k):=
 gG J2 (by kernel_rfl) (callF_sound (L:=L3 G k) (f:=3) TAB_chk MO hG Try.func3 (sg:=S3) (by kernel_rfl) (by kernel_rfl) (las [0] (by kernel_rfl) ⟨loopIs J1 k (fun K X=>b3_0 G k X (koX J0 P3_0x K)) P3_0h P3_0x default (by kernel_rfl) (by kernel_rfl) (by kernel_rfl) (fun K X=>by kernel_rfl) (fun S K=>by kernel_rfl),trivial⟩))
def f6{R:Type}(G:ORC R)(k:Nat)(a:ByteArray)(b c:Int)(d e f g h i l m n:LV)(o:ByteArray)(p:Int)(K:LV→OV R):OV R:=
 (G 16 [.str o,.bool (!(ByteArray.toList o==ByteArray.toList ⟨#[]⟩)),.str a,.int .i64 b,.int .i64 c,.sl 1 d,.sl 1 e,.sl 1 f,.sl 7 g,.sl 6 h,.sl 1 i,.sl 1 l,.sl 1 m,.sl 1 n,.int .i64 p,.mp [],.sl 1 [],.sl 2 [],.int .i64 0] fun a=>uA a fun a b=>uL 1 a fun a c=>uL 2 c fun c d=>uI .i64 d fun d e=>unNil e (uS b fun b e=>uI .i64 e fun b e=>uI .i64 e fun b e=>uI .i64 e fun b e=>unCons e fun b e=>unCons e fun b e=>unCons e fun b e=>uI .i64 e fun b e=>unNil e (K [.agg [.sl 1 a,.sl 2 c,.int .i64 d]])))
abbrev g6 {R:Type} (G:ORC R) (k:Nat):LV→(LV→OV R)→OV R:=gF J10 (f6 G k)
theorem s6{R:Type}{G:ORC R}{k:Nat}(hG:Sound Try.prog TAB G):TL 6 (g6 G k):=
 gG J10 (by kernel_rfl) (callF_sound (L:=fun _ _ _=>none) (f:=6) TAB_chk MO hG Try.func6 (sg:=S6) (by kernel_rfl) (by kernel_rfl) (las [] (by kernel_rfl) trivial))
def P7_0h:Pat:={tmps:=unds [.var (.sl 7) .ro,pL,pU,pU,pU,pI] 105 [],boxes:=nons [] 111 []}
def P7_0x:Pat:={tmps:=unds [] 111 [],boxes:=nons [] 111 []}
def P7_0r:Pat:={tmps:=unds [pU,pU,pU,pU,.var .bool .pr] 106 [],boxes:=nons [] 111 []}
abbrev c7_2 {R:Type} (G:ORC R) (k:Nat) (Kr:Cu R J7) (X:Cu R J12) (a b:Int) (c d e:LV):OV R:=
 (bif(a==3)then(bif((decide (0≤b))&&(decide (b<(c.length:Int))))then(nthK c (Int.toNat b) fun a=>aI .i64 a fun a=>G 21 [.sl 7 d,.int .i64 a] fun a=>uL 1 a fun a f=>unNil f (bif((e.length:Int) !=(a.length:Int))then(Kr false)else(X d c (IntKind.i64.wrap (b+1)))))else none)else(X d c (IntKind.i64.wrap (b+1))))
abbrev c7_1 {R:Type} (G:ORC R) (k:Nat) (Kr:Cu R J7) (X:Cu R J12) (a:Int) (b c:LV):OV R:=
 (bif((decide (0≤a))&&(decide (a<(b.length:Int))))then(nthK b (Int.toNat a) fun d=>aI .i64 d fun d=>G 21 [.sl 7 c,.int .i64 d] fun d=>uL 1 d fun d e=>unNil e (G 20 [.sl 1 d,.sl 1 b] fun d=>uL 1 d fun d e=>unNil e (bif((decide (0≤a))&&(decide (a<(b.length:Int))))then(nthK b (Int.toNat a) fun e=>aI .i64 e fun e=>bif((decide (0≤e))&&(decide (e<(c.length:Int))))then(nthK c (Int.toNat e) fun e=>V.asAgg e fun e=>ce7 e fun e f g h i l m=>aI .i64 e fun e=>aI .i64 f fun f=>aI .i64 g fun f=>aI .i64 h fun f=>aI .i64 i fun f=>aI .i64 l fun f=>V.asStr m fun f=>bif(e==2)then(bif((d.length:Int) !=1)then(Kr false)else(c7_2 G k Kr X e a b c d))else(c7_2 G k Kr X e a b c d))else none)else none)))else none)
abbrev c7_0 {R:Type} (G:ORC R) (k:Nat) (Kr:Cu R J7) (X:Cu R J12) (a:Int) (b c:LV):OV R:=
 (bif((decide (0≤a))&&(decide (a<(b.length:Int))))then(nthK b (Int.toNat a) fun d=>aI .i64 d fun d=>bif((decide (0≤d))&&(decide (d<(c.length:Int))))then(nthK c (Int.toNat d) fun d=>V.asAgg d fun d=>G 19 [.agg d] fun d=>uB d fun d e=>unNil e (bif(!d)then(Kr false)else(bif((decide (0≤a))&&(decide (a<(b.length:Int))))then(nthK b (Int.toNat a) fun d=>aI .i64 d fun d=>bif(decide (d>0))then(bif((decide (0≤a))&&(decide (a<(b.length:Int))))then(nthK b (Int.toNat a) fun d=>aI .i64 d fun d=>bif((decide (0≤d))&&(decide (d<(c.length:Int))))then(nthK c (Int.toNat d) fun d=>ca7 d fun d e f g d h f=>aI .i64 e fun d=>G 17 [.sl 1 b,.int .i64 d] fun d=>uB d fun d e=>unNil e (bif(!d)then(Kr false)else(c7_1 G k Kr X a b c)))else none)else none)else(c7_1 G k Kr X a b c))else none)))else none)else none)
def b7_0{R:Type}(G:ORC R)(k:Nat)(X:Cu R J12)(Ko:Cu R J11)(Kr:Cu R J7)(a b:LV)(c:Int):OV R:=
 (bif(decide (c<(b.length:Int)))then(bif((decide (0≤c))&&(decide (c<(b.length:Int))))then(nthK b (Int.toNat c) fun d=>aI .i64 d fun d=>G 18 [.sl 7 a,.int .i64 d] fun d=>uB d fun d e=>unNil e (bif(!d)then(Kr false)else(bif(decide (c>0))then(bif((decide (0≤c))&&(decide (c<(b.length:Int))))then(nthK b (Int.toNat c) fun d=>aI .i64 d fun d=>bif((decide (0≤(IntKind.i64.wrap (c-1))))&&(decide ((IntKind.i64.wrap (c-1))<(b.length:Int))))then(nthK b (Int.toNat (IntKind.i64.wrap (c-1))) fun e=>aI .i64 e fun e=>bif(decide (d≤e))then(Kr false)else(c7_0 G k Kr X c b a))else none)else none)else(c7_0 G k Kr X c b a))))else none)else(Ko ()))
def l7_0g{R:Type}(G:ORC R)(k:Nat)(Ko:Cu R J11)(Kr:Cu R J7)(j:Nat):Cu R J12:=lup J12 (fun X=>b7_0 G k X Ko Kr) j
def l7_0{R:Type}(G:ORC R)(k:Nat)(a b:LV)(c:Int)(Ko:Cu R J11)(Kr:Cu R J7):OV R:=l7_0g G k Ko Kr k a b c
def L7{R:Type}(G:ORC R)(k:Nat):Nat→St→(Ex→St→OV R)→OV R
 |0,S,K=>P7_0h.mat S fun vs=>uc J12 (l7_0g G k (koX J11 P7_0x K) (koR J7 P7_0r K) k) vs none
 |_,_,_=>none
def f7{R:Type}(G:ORC R)(k:Nat)(a b:LV)(K:LV→OV R):OV R:=
 (G 17 [.sl 1 b,.int .i64 0] fun c=>uB c fun c d=>unNil d (bif(!c)then(K [.bool false])else(l7_0 G k a b 0 (fun(_:Unit)=>K [.bool true]) (fun a=>K [.bool a]))))
abbrev g7 {R:Type} (G:ORC R) (k:Nat):LV→(LV→OV R)→OV R:=gF J13 (f7 G k)
theorem s7{R:Type}{G:ORC R}{k:Nat}(hG:Sound Try.prog TAB G):TL 7 (g7 G k):=
 gG J13 (by kernel_rfl) (callF_sound (L:=L7 G k) (f:=7) TAB_chk MO hG Try.func7 (sg:=S7) (by kernel_rfl) (by kernel_rfl) (las [0] (by kernel_rfl) ⟨loopIs J12 k (fun K X=>b7_0 G k X (koX J11 P7_0x K) (koR J7 P7_0r K)) P7_0h P7_0x P7_0r (by kernel_rfl) (by kernel_rfl) (by kernel_rfl) (fun K X=>by kernel_rfl) (fun S K=>by kernel_rfl),trivial⟩))
def f8{R:Type}(G:ORC R)(k:Nat)(K:LV→OV R):OV R:=
 (G 6 [.agg [.str ⟨#[99]⟩,.int .i64 2,.int .i64 9,.sl 1 [],.sl 1 [],.sl 1 [],.sl 7 [.agg [.int .i64 2,.int .i64 (-1),.int .i64 2,.int .i64 1,.int .i64 (-1),.int .i64 (-1),.str ⟨#[]⟩],.agg [.int .i64 2,.int .i64 0,.int .i64 2,.int .i64 2,.int .i64 (-1),.int .i64 (-1),.str ⟨#[97]⟩],.agg [.int .i64 1,.int .i64 1,.int .i64 2,.int .i64 (-1),.int .i64 (-1),.int .i64 (-1),.str ⟨#[98]⟩]],.sl 6 [.agg [.int .i64 1,.int .i64 1,.int .i64 0,.int .i64 (-1),.int .i64 (-1),.str ⟨#[101]⟩],.agg [.int .i64 2,.int .i64 2,.int .i64 1,.int .i64 (-1),.int .i64 (-1),.str ⟨#[101]⟩]],.sl 1 []],.agg [.sl 1 [.int .i64 0,.int .i64 1,.int .i64 2],.sl 1 [],.sl 1 []],.agg [.str ⟨#[101]⟩,.int .i64 0]] fun a=>uA a fun a b=>uL 1 a fun a c=>uL 2 c fun c d=>uI .i64 d fun c d=>unNil d (unNil b (G 6 [.agg [.str ⟨#[99]⟩,.int .i64 2,.int .i64 9,.sl 1 [],.sl 1 [],.sl 1 [],.sl 7 [.agg [.int .i64 2,.int .i64 (-1),.int .i64 2,.int .i64 1,.int .i64 (-1),.int .i64 (-1),.str ⟨#[]⟩],.agg [.int .i64 2,.int .i64 0,.int .i64 2,.int .i64 2,.int .i64 (-1),.int .i64 (-1),.str ⟨#[97]⟩],.agg [.int .i64 1,.int .i64 1,.int .i64 2,.int .i64 (-1),.int .i64 (-1),.int .i64 (-1),.str ⟨#[98]⟩]],.sl 6 [.agg [.int .i64 1,.int .i64 1,.int .i64 0,.int .i64 (-1),.int .i64 (-1),.str ⟨#[101]⟩],.agg [.int .i64 2,.int .i64 2,.int .i64 1,.int .i64 (-1),.int .i64 (-1),.str ⟨#[101]⟩]],.sl 1 []],.agg [.sl 1 [.int .i64 0,.int .i64 1,.int .i64 2],.sl 1 [],.sl 1 []],.agg [.str ⟨#[]⟩,.int .i64 0]] fun b=>uA b fun b d=>uL 1 b fun b e=>uL 2 e fun e f=>uI .i64 f fun e f=>unNil f (unNil d (G 11 [.sl 1 a,.sl 1 [.int .i64 1]] fun a=>uB a fun a d=>unNil d (bif a then(bif((b.length:Int)==0)then(K [.bool (c==0)])else(K [.bool false]))else(K [.bool false])))))))
abbrev g8 {R:Type} (G:ORC R) (k:Nat):LV→(LV→OV R)→OV R:=gF J11 (f8 G k)
theorem s8{R:Type}{G:ORC R}{k:Nat}(hG:Sound Try.prog TAB G):TL 8 (g8 G k):=
 gG J11 (by kernel_rfl) (callF_sound (L:=fun _ _ _=>none) (f:=8) TAB_chk MO hG Try.func8 (sg:=S8) (by kernel_rfl) (by kernel_rfl) (las [] (by kernel_rfl) trivial))
def P11_0h:Pat:={tmps:=unds [pL,pL,pU,pU,pU,pI] 20 [],boxes:=nons [] 26 []}
def P11_0x:Pat:={tmps:=unds [] 26 [],boxes:=nons [] 26 []}
def P11_0r:Pat:={tmps:=unds [pU,pU,pU,pU,.var .bool .pr] 21 [],boxes:=nons [] 26 []}
def b11_0{R:Type}(G:ORC R)(k:Nat)(X:Cu R J22)(Ko:Cu R J11)(Kr:Cu R J7)(a b:LV)(c:Int):OV R:=
 (bif(decide (c<(a.length:Int)))then(bif((decide (0≤c))&&(decide (c<(a.length:Int))))then(nthK a (Int.toNat c) fun d=>aI .i64 d fun d=>bif((decide (0≤c))&&(decide (c<(b.length:Int))))then(nthK b (Int.toNat c) fun e=>aI .i64 e fun e=>bif(d !=e)then(Kr false)else(X a b (IntKind.i64.wrap (c+1))))else none)else none)else(Ko ()))
def l11_0g{R:Type}(G:ORC R)(k:Nat)(Ko:Cu R J11)(Kr:Cu R J7)(j:Nat):Cu R J22:=lup J22 (fun X=>b11_0 G k X Ko Kr) j
def l11_0{R:Type}(G:ORC R)(k:Nat)(a b:LV)(c:Int)(Ko:Cu R J11)(Kr:Cu R J7):OV R:=l11_0g G k Ko Kr k a b c
def L11{R:Type}(G:ORC R)(k:Nat):Nat→St→(Ex→St→OV R)→OV R
 |0,S,K=>P11_0h.mat S fun vs=>uc J22 (l11_0g G k (koX J11 P11_0x K) (koR J7 P11_0r K) k) vs none
 |_,_,_=>none
def f11{R:Type}(G:ORC R)(k:Nat)(a b:LV)(K:LV→OV R):OV R:=
 (bif((a.length:Int) !=(b.length:Int))then(K [.bool false])else(l11_0 G k a b 0 (fun(_:Unit)=>K [.bool true]) (fun a=>K [.bool a])))
abbrev g11 {R:Type} (G:ORC R) (k:Nat):LV→(LV→OV R)→OV R:=gF J23 (f11 G k)
theorem s11{R:Type}{G:ORC R}{k:Nat}(hG:Sound Try.prog TAB G):TL 11 (g11 G k):=
 gG J23 (by kernel_rfl) (callF_sound (L:=L11 G k) (f:=11) TAB_chk MO hG Try.func11 (sg:=S11) (by kernel_rfl) (by kernel_rfl) (las [0] (by kernel_rfl) ⟨loopIs J22 k (fun K X=>b11_0 G k X (koX J11 P11_0x K) (koR J7 P11_0r K)) P11_0h P11_0x P11_0r (by kernel_rfl) (by kernel_rfl) (by kernel_rfl) (fun K X=>by kernel_rfl) (fun S K=>by kernel_rfl),trivial⟩))
def P16_0h:Pat:={tmps:=unds [pS 0,.var .str .pr,pU,pU,pU,pU,pS 7,.var (.sl 1) (.own true)] 21 (unds [pL,pI,pI] 34 []),boxes:=nons [some B4] 6 (nons [some B5] 59 [])}
def P16_0x:Pat:={tmps:=unds [pS 0] 5 (unds [pS 7,.var (.sl 1) (.own true)] 58 []),boxes:=nons [some B4] 6 (nons [some B5] 59 [])}
def P16_2h:Pat:={tmps:=unds [pS 0] 5 (unds [pS 7,.var (.sl 1) (.own true)] 44 (unds [.stat (.ref (.s 7) 0),pI,pI] 11 [])),boxes:=nons [some B4] 6 (nons [some B5] 59 [])}
def P16_2x:Pat:={tmps:=unds [pS 0] 5 (unds [pS 7] 59 []),boxes:=nons [some B4] 6 (nons [some B5] 59 [])}
def b16_0{R:Type}(G:ORC R)(k:Nat)(X:Cu R J26)(Ko:Cu R J25)(a:ByteArray)(b c:LV)(d e:Int)(f:ByteArray)(g h:Int)(i l m n o p q r s:LV)(t:Int)(u v w:V)(x:Int)(y z:LV)(A:Int):OV R:=
 (bif(decide (e<d))then(bif((decide (0≤e))&&(decide (e<(c.length:Int))))then(nthK c (Int.toNat e) fun B=>aI .i64 B fun B=>G 35 [.int .i64 B,.str a,.str f,.int .i64 g,.int .i64 h,.sl 1 i,.sl 1 l,.sl 1 m,.sl 7 n,.sl 6 o,.sl 1 p,.sl 1 q,.sl 1 r,.sl 1 s,.int .i64 t,u,v,w,.int .i64 x] fun B=>uI .i64 B fun B C=>uS C fun C D=>uI .i64 D fun D E=>uI .i64 E fun E F=>uI .i64 F fun F H=>unCons H fun H I=>uL 1 I fun I J=>uL 2 J fun J L=>uI .i64 L fun L M=>unNil M (bif(decide (B≥0))then(G 36 [.sl 1 b,.int .i64 B] fun M=>uB M fun M N=>unNil N (bif(!M)then(bif(decide (List.length b+1≤1073741824))then(X a (b++[.int .i64 B]) c d (IntKind.i64.wrap (e+1)) C D E i l m n o p q r s F H (.sl 1 I) (.sl 2 J) L y z A)else none)else(X a b c d (IntKind.i64.wrap (e+1)) C D E i l m n o p q r s F H (.sl 1 I) (.sl 2 J) L y z A)))else(X a b c d (IntKind.i64.wrap (e+1)) C D E i l m n o p q r s F H (.sl 1 I) (.sl 2 J) L y z A)))else none)else(Ko b f g h i l m n o p q r s t u v w x y z A))
def l16_0g{R:Type}(G:ORC R)(k:Nat)(Ko:Cu R J25)(j:Nat):Cu R J26:=lup J26 (fun X=>b16_0 G k X Ko) j
def l16_0{R:Type}(G:ORC R)(k:Nat)(a:ByteArray)(b c:LV)(d e:Int)(f:ByteArray)(g h:Int)(i l m n o p q r s:LV)(t:Int)(u v w:V)(x:Int)(y z:LV)(A:Int)(Ko:Cu R J25):OV R:=l16_0g G k Ko k a b c d e f g h i l m n o p q r s t u v w x y z A
def b16_2{R:Type}(G:ORC R)(k:Nat)(X:Cu R J28)(Ko:Cu R J27)(a:LV)(b c:Int)(d:ByteArray)(e f:Int)(g h i l m n o p q:LV)(r:Int)(s t u:V)(v:Int)(w x:LV)(y:Int):OV R:=
 (bif(decide (c<b))then(bif((decide (0≤c))&&(decide (c<(a.length:Int))))then(nthK a (Int.toNat c) fun z=>aI .i64 z fun z=>G 37 [.int .i64 z,.str d,.int .i64 e,.int .i64 f,.sl 1 g,.sl 1 h,.sl 1 i,.sl 7 l,.sl 6 m,.sl 1 n,.sl 1 o,.sl 1 p,.sl 1 q,.int .i64 r,s,t,u,.int .i64 v] fun z=>uS z fun z A=>uI .i64 A fun A B=>uI .i64 B fun B C=>uI .i64 C fun C D=>unCons D fun D E=>uL 1 E fun E F=>uL 2 F fun F H=>uI .i64 H fun H I=>unNil I (X a b (IntKind.i64.wrap (c+1)) z A B g h i l m n o p q C D (.sl 1 E) (.sl 2 F) H w x y))else none)else(Ko d e f g h i l m n o p q r s t u v w x y))
def l16_2g{R:Type}(G:ORC R)(k:Nat)(Ko:Cu R J27)(j:Nat):Cu R J28:=lup J28 (fun X=>b16_2 G k X Ko) j
def l16_2{R:Type}(G:ORC R)(k:Nat)(a:LV)(b c:Int)(d:ByteArray)(e f:Int)(g h i l m n o p q:LV)(r:Int)(s t u:V)(v:Int)(w x:LV)(y:Int)(Ko:Cu R J27):OV R:=l16_2g G k Ko k a b c d e f g h i l m n o p q r s t u v w x y
def L16{R:Type}(G:ORC R)(k:Nat):Nat→St→(Ex→St→OV R)→OV R
 |0,S,K=>P16_0h.mat S fun vs=>uc J26 (l16_0g G k (koX J25 P16_0x K) k) vs none
 |2,S,K=>P16_2h.mat S fun vs=>uc J28 (l16_2g G k (koX J27 P16_2x K) k) vs none
 |_,_,_=>none
def f16{R:Type}(G:ORC R)(k:Nat)(a:ByteArray)(b:Bool)(c:ByteArray)(d e:Int)(f g h i l m n o p:LV)(q:Int)(r s t:V)(u:Int)(K:LV→OV R):OV R:=
 (bif(!b)then(V.asSl s fun b v=>V.asSl t fun w x=>K [.agg [.sl b v,.sl w x,.int .i64 u],.str c,.int .i64 d,.int .i64 e,.int .i64 q,r,.undef,.undef,.int .i64 u])else(G 34 [.sl 7 i,.sl 1 n] fun b=>uL 1 b fun b v=>unNil v (l16_0 G k a [] b (b.length:Int) 0 c d e f g h i l m n o p q r s t u [] [] 0 (fun a b c d e f g h i l m n o p q r s t u v w=>l16_2 G k a (a.length:Int) 0 b c d e f g h i l m n o p q r s t u v w (fun a b c d e f g d e f g d e f g d h i l m=>V.asSl g fun g i=>V.asSl d fun d l=>K [.agg [.sl g i,.sl d l,.int .i64 h],.str a,.int .i64 b,.int .i64 c,.int .i64 e,f,.undef,.undef,.int .i64 h])))))
abbrev g16 {R:Type} (G:ORC R) (k:Nat):LV→(LV→OV R)→OV R:=gF J29 (f16 G k)
theorem s16{R:Type}{G:ORC R}{k:Nat}(hG:Sound Try.prog TAB G):TL 16 (g16 G k):=
 gG J29 (by kernel_rfl) (callF_sound (L:=L16 G k) (f:=16) TAB_chk MO hG Try.func16 (sg:=S16) (by kernel_rfl) (by kernel_rfl) (las [0,2] (by kernel_rfl) ⟨loopIs J26 k (fun K X=>b16_0 G k X (koX J25 P16_0x K)) P16_0h P16_0x default (by kernel_rfl) (by kernel_rfl) (by kernel_rfl) (fun K X=>by kernel_rfl) (fun S K=>by kernel_rfl),loopIs J28 k (fun K X=>b16_2 G k X (koX J27 P16_2x K)) P16_2h P16_2x default (by kernel_rfl) (by kernel_rfl) (by kernel_rfl) (fun K X=>by kernel_rfl) (fun S K=>by kernel_rfl),trivial⟩))
def P17_0h:Pat:={tmps:=unds [pL,pI,pU,pU,pU,pI] 12 [],boxes:=nons [] 18 []}
def P17_0x:Pat:={tmps:=unds [] 18 [],boxes:=nons [] 18 []}
def P17_0r:Pat:={tmps:=unds [pU,pU,pU,pU,.var .bool .pr] 13 [],boxes:=nons [] 18 []}
def b17_0{R:Type}(G:ORC R)(k:Nat)(X:Cu R J30)(Ko:Cu R J11)(Kr:Cu R J7)(a:LV)(b c:Int):OV R:=
 (bif(decide (c<(a.length:Int)))then(bif((decide (0≤c))&&(decide (c<(a.length:Int))))then(nthK a (Int.toNat c) fun d=>aI .i64 d fun d=>bif(d==b)then(Kr true)else(X a b (IntKind.i64.wrap (c+1))))else none)else(Ko ()))
def l17_0g{R:Type}(G:ORC R)(k:Nat)(Ko:Cu R J11)(Kr:Cu R J7)(j:Nat):Cu R J30:=lup J30 (fun X=>b17_0 G k X Ko Kr) j
def l17_0{R:Type}(G:ORC R)(k:Nat)(a:LV)(b c:Int)(Ko:Cu R J11)(Kr:Cu R J7):OV R:=l17_0g G k Ko Kr k a b c
def L17{R:Type}(G:ORC R)(k:Nat):Nat→St→(Ex→St→OV R)→OV R
 |0,S,K=>P17_0h.mat S fun vs=>uc J30 (l17_0g G k (koX J11 P17_0x K) (koR J7 P17_0r K) k) vs none
 |_,_,_=>none
def f17{R:Type}(G:ORC R)(k:Nat)(a:LV)(b:Int)(K:LV→OV R):OV R:=
 (l17_0 G k a b 0 (fun(_:Unit)=>K [.bool false]) (fun a=>K [.bool a]))
abbrev g17 {R:Type} (G:ORC R) (k:Nat):LV→(LV→OV R)→OV R:=gF J31 (f17 G k)
theorem s17{R:Type}{G:ORC R}{k:Nat}(hG:Sound Try.prog TAB G):TL 17 (g17 G k):=
 gG J31 (by kernel_rfl) (callF_sound (L:=L17 G k) (f:=17) TAB_chk MO hG Try.func17 (sg:=S17) (by kernel_rfl) (by kernel_rfl) (las [0] (by kernel_rfl) ⟨loopIs J30 k (fun K X=>b17_0 G k X (koX J11 P17_0x K) (koR J7 P17_0r K)) P17_0h P17_0x P17_0r (by kernel_rfl) (by kernel_rfl) (by kernel_rfl) (fun K X=>by kernel_rfl) (fun S K=>by kernel_rfl),trivial⟩))
def f18{R:Type}(G:ORC R)(k:Nat)(a:LV)(b:Int)(K:LV→OV R):OV R:=
 (bif(decide (b≥0))then(K [.bool (decide (b<(a.length:Int)))])else(K [.bool false]))
abbrev g18 {R:Type} (G:ORC R) (k:Nat):LV→(LV→OV R)→OV R:=gF J32 (f18 G k)
theorem s18{R:Type}{G:ORC R}{k:Nat}(hG:Sound Try.prog TAB G):TL 18 (g18 G k):=
 gG J32 (by kernel_rfl) (callF_sound (L:=fun _ _ _=>none) (f:=18) TAB_chk MO hG Try.func18 (sg:=S18) (by kernel_rfl) (by kernel_rfl) (las [] (by kernel_rfl) trivial))
def f19{R:Type}(G:ORC R)(k:Nat)(a b c d e b:Int)(b:ByteArray)(K:LV→OV R):OV R:=
 (K [.bool (decide (a≤3))])
abbrev g19 {R:Type} (G:ORC R) (k:Nat):LV→(LV→OV R)→OV R:=gF J33 (f19 G k)
theorem s19{R:Type}{G:ORC R}{k:Nat}(hG:Sound Try.prog TAB G):TL 19 (g19 G k):=
 gG J33 (by kernel_rfl) (callF_sound (L:=fun _ _ _=>none) (f:=19) TAB_chk MO hG Try.func19 (sg:=S19) (by kernel_rfl) (by kernel_rfl) (las [] (by kernel_rfl) trivial))
def f20{R:Type}(G:ORC R)(k:Nat)(a b:LV)(K:LV→OV R):OV R:=
 (G 38 [.sl 1 a,.sl 1 b] fun b=>uL 1 b fun b c=>unNil c (G 38 [.sl 1 a,.sl 1 b] fun a=>uL 1 a fun a b=>unNil b (K [.sl 1 a])))
abbrev g20 {R:Type} (G:ORC R) (k:Nat):LV→(LV→OV R)→OV R:=gF J23 (f20 G k)
theorem s20{R:Type}{G:ORC R}{k:Nat}(hG:Sound Try.prog TAB G):TL 20 (g20 G k):=
 gG J23 (by kernel_rfl) (callF_sound (L:=fun _ _ _=>none) (f:=20) TAB_chk MO hG Try.func20 (sg:=S20) (by kernel_rfl) (by kernel_rfl) (las [] (by kernel_rfl) trivial))
def P21_0h:Pat:={tmps:=unds [.var (.sl 7) .ro,pU,pU,pU,pU,.var (.sl 1) (.own true),pL,pI] 25 [],boxes:=nons [] 33 []}
def P21_0x:Pat:={tmps:=unds [] 5 (unds [.var (.sl 1) (.own true)] 27 []),boxes:=nons [] 33 []}
def b21_0{R:Type}(G:ORC R)(k:Nat)(X:Cu R J35)(Ko:Cu R J34)(a b c:LV)(d:Int):OV R:=
 (bif(decide (d<(c.length:Int)))then(bif((decide (0≤d))&&(decide (d<(c.length:Int))))then(nthK c (Int.toNat d) fun e=>aI .i64 e fun e=>bif((decide (0≤e))&&(decide (e<(a.length:Int))))then(nthK a (Int.toNat e) fun e=>V.asAgg e fun e=>G 19 [.agg e] fun e=>uB e fun e f=>unNil f (bif e then(bif((decide (0≤d))&&(decide (d<(c.length:Int))))then(nthK c (Int.toNat d) fun e=>aI .i64 e fun e=>bif(decide (List.length b+1≤1073741824))then(X a (b++[.int .i64 e]) c (IntKind.i64.wrap (d+1)))else none)else none)else(X a b c (IntKind.i64.wrap (d+1)))))else none)else none)else(Ko b))
def l21_0g{R:Type}(G:ORC R)(k:Nat)(Ko:Cu R J34)(j:Nat):Cu R J35:=lup J35 (fun X=>b21_0 G k X Ko) j
def l21_0{R:Type}(G:ORC R)(k:Nat)(a b c:LV)(d:Int)(Ko:Cu R J34):OV R:=l21_0g G k Ko k a b c d
def L21{R:Type}(G:ORC R)(k:Nat):Nat→St→(Ex→St→OV R)→OV R
 |0,S,K=>P21_0h.mat S fun vs=>uc J35 (l21_0g G k (koX J34 P21_0x K) k) vs none
 |_,_,_=>none
def f21{R:Type}(G:ORC R)(k:Nat)(a:LV)(b:Int)(K:LV→OV R):OV R:=
 (G 39 [.sl 7 a,.int .i64 b] fun b=>uL 1 b fun b c=>unNil c (l21_0 G k a [] b 0 (fun a=>K [.sl 1 a])))
abbrev g21 {R:Type} (G:ORC R) (k:Nat):LV→(LV→OV R)→OV R:=gF J32 (f21 G k)
theorem s21{R:Type}{G:ORC R}{k:Nat}(hG:Sound Try.prog TAB G):TL 21 (g21 G k):=
 gG J32 (by kernel_rfl) (callF_sound (L:=L21 G k) (f:=21) TAB_chk MO hG Try.func21 (sg:=S21) (by kernel_rfl) (by kernel_rfl) (las [0] (by kernel_rfl) ⟨loopIs J35 k (fun K X=>b21_0 G k X (koX J34 P21_0x K)) P21_0h P21_0x default (by kernel_rfl) (by kernel_rfl) (by kernel_rfl) (fun K X=>by kernel_rfl) (fun S K=>by kernel_rfl),trivial⟩))
def P34_0h:Pat:={tmps:=unds [.var (.sl 7) .ro,pU,pU,pU,pU,.var (.sl 1) (.own true),pU,pU,pL,pI,pI] 20 [],boxes:=nons [] 31 []}
def P34_0x:Pat:={tmps:=unds [] 5 (unds [.var (.sl 1) (.own true)] 25 []),boxes:=nons [] 31 []}
def b34_0{R:Type}(G:ORC R)(k:Nat)(X:Cu R J57)(Ko:Cu R J34)(a b c:LV)(d e:Int):OV R:=
 (bif(decide (e<d))then(bif((decide (0≤e))&&(decide (e<(c.length:Int))))then(nthK c (Int.toNat e) fun f=>aI .i64 f fun f=>G 61 [.sl 7 a,.int .i64 f] fun g=>uB g fun g h=>unNil h (bif g then(bif((decide (0≤f))&&(decide (f<(a.length:Int))))then(nthK a (Int.toNat f) fun g=>ca7 g fun g h i l m h i=>aI .i64 g fun g=>bif(g==1)then(bif(decide (List.length b+1≤1073741824))then(X a (b++[.int .i64 f]) c d (IntKind.i64.wrap (e+1)))else none)else(X a b c d (IntKind.i64.wrap (e+1))))else none)else(X a b c d (IntKind.i64.wrap (e+1)))))else none)else(Ko b))
def l34_0g{R:Type}(G:ORC R)(k:Nat)(Ko:Cu R J34)(j:Nat):Cu R J57:=lup J57 (fun X=>b34_0 G k X Ko) j
def l34_0{R:Type}(G:ORC R)(k:Nat)(a b c:LV)(d e:Int)(Ko:Cu R J34):OV R:=l34_0g G k Ko k a b c d e
def L34{R:Type}(G:ORC R)(k:Nat):Nat→St→(Ex→St→OV R)→OV R
 |0,S,K=>P34_0h.mat S fun vs=>uc J57 (l34_0g G k (koX J34 P34_0x K) k) vs none
 |_,_,_=>none
def f34{R:Type}(G:ORC R)(k:Nat)(a b:LV)(K:LV→OV R):OV R:=
 (l34_0 G k a [] b (b.length:Int) 0 (fun a=>K [.sl 1 a]))
abbrev g34 {R:Type} (G:ORC R) (k:Nat):LV→(LV→OV R)→OV R:=gF J13 (f34 G k)
theorem s34{R:Type}{G:ORC R}{k:Nat}(hG:Sound Try.prog TAB G):TL 34 (g34 G k):=
 gG J13 (by kernel_rfl) (callF_sound (L:=L34 G k) (f:=34) TAB_chk MO hG Try.func34 (sg:=S34) (by kernel_rfl) (by kernel_rfl) (las [0] (by kernel_rfl) ⟨loopIs J57 k (fun K X=>b34_0 G k X (koX J34 P34_0x K)) P34_0h P34_0x default (by kernel_rfl) (by kernel_rfl) (by kernel_rfl) (fun K X=>by kernel_rfl) (fun S K=>by kernel_rfl),trivial⟩))
def P35_2h:Pat:={tmps:=unds [pS 0,pI,.var .str .pr,pU,pU,pU,pU,pI] 30 (unds [.var (.sl 6) .ro,pI,pI] 30 []),boxes:=nons [some B16] 71 []}
def P35_2x:Pat:={tmps:=unds [pS 0,pI,.var .str .pr,pU,pU,pU,pU,pI] 63 [],boxes:=nons [some B16] 71 []}
def P35_2r:Pat:={tmps:=unds [] 6 (unds [pI] 64 []),boxes:=nons [some B16] 71 []}
def P35_0h:Pat:={tmps:=unds [pS 0,pI,.var .str .pr,pU,pU,pU,pU,pI] 63 [],boxes:=nons [some B16] 71 []}
def P35_0x:Pat:={tmps:=unds [] 71 [],boxes:=nons [some B16] 71 []}
def P35_0r:Pat:={tmps:=unds [] 6 (unds [pI] 64 []),boxes:=nons [some B16] 71 []}
def b35_2{R:Type}(G:ORC R)(k:Nat)(X:Cu R J60)(Ko:Cu R J58)(Kr:Cu R J59)(a:Int)(b:ByteArray)(c:Int)(d:LV)(e f:Int)(g:ByteArray)(h i:Int)(l m n o p q r s t:LV)(u:Int)(v:V)(w x:LV)(y:Int):OV R:=
 (bif(decide (f<e))then(bif((decide (0≤f))&&(decide (f<(d.length:Int))))then(nthK d (Int.toNat f) fun z=>V.asAgg z fun z=>ce6 z fun z A B C D E=>aI .i64 z fun z=>aI .i64 A fun A=>aI .i64 B fun A=>aI .i64 C fun A=>aI .i64 D fun A=>V.asStr E fun A=>bif(z==a)then(bif(ByteArray.toList A==ByteArray.toList b)then(G 62 [.int .i64 f,.str g,.int .i64 h,.int .i64 i,.sl 1 l,.sl 1 m,.sl 1 n,.sl 7 o,.sl 6 p,.sl 1 q,.sl 1 r,.sl 1 s,.sl 1 t,.int .i64 u,v,.sl 1 w,.sl 2 x,.int .i64 y] fun z=>uB z fun z A=>uS A fun A B=>uI .i64 B fun B C=>uI .i64 C fun C D=>uI .i64 D fun D E=>unCons E fun E F=>uL 1 F fun F H=>uL 2 H fun H I=>uI .i64 I fun I J=>unNil J (bif z then(Kr f A B C l m n o p q r s t D E F H I)else(X a b c d e (IntKind.i64.wrap (f+1)) A B C l m n o p q r s t D E F H I)))else(X a b c d e (IntKind.i64.wrap (f+1)) g h i l m n o p q r s t u v w x y))else(X a b c d e (IntKind.i64.wrap (f+1)) g h i l m n o p q r s t u v w x y))else none)else(Ko a b c g h i l m n o p q r s t u v w x y))
def l35_2g{R:Type}(G:ORC R)(k:Nat)(Ko:Cu R J58)(Kr:Cu R J59)(j:Nat):Cu R J60:=lup J60 (fun X=>b35_2 G k X Ko Kr) j
def l35_2{R:Type}(G:ORC R)(k:Nat)(a:Int)(b:ByteArray)(c:Int)(d:LV)(e f:Int)(g:ByteArray)(h i:Int)(l m n o p q r s t:LV)(u:Int)(v:V)(w x:LV)(y:Int)(Ko:Cu R J58)(Kr:Cu R J59):OV R:=l35_2g G k Ko Kr k a b c d e f g h i l m n o p q r s t u v w x y
def b35_0{R:Type}(G:ORC R)(k:Nat)(X:Cu R J58)(Ko:Cu R J61)(Kr:Cu R J59)(a:Int)(b:ByteArray)(c:Int)(d:ByteArray)(e f:Int)(g h i l m n o p q:LV)(r:Int)(s:V)(t u:LV)(v:Int):OV R:=
 (bif(decide (a≥0))then(bif(decide (a<(l.length:Int)))then(bif(decide (c≤(l.length:Int)))then(l35_2 G k a b c m (m.length:Int) 0 d e f g h i l m n o p q r s t u v (fun a b c w x y z A B C D E F H I J L M N O=>bif((decide (0≤a))&&(decide (a<(C.length:Int))))then(nthK C (Int.toNat a) fun a=>ca7 a fun a P Q S a T Q=>aI .i64 P fun a=>X a b (IntKind.i64.wrap (c+1)) w x y z A B C D E F H I J L M N O)else none) (fun a b c w x y z A B C D E F H I J L M=>Kr a b c w x y z A B C D E F H I J L M))else(Ko d e f g h i l m n o p q r s t u v))else(Ko d e f g h i l m n o p q r s t u v))else(Ko d e f g h i l m n o p q r s t u v))
def l35_0g{R:Type}(G:ORC R)(k:Nat)(Ko:Cu R J61)(Kr:Cu R J59)(j:Nat):Cu R J58:=lup J58 (fun X=>b35_0 G k X Ko Kr) j
def l35_0{R:Type}(G:ORC R)(k:Nat)(a:Int)(b:ByteArray)(c:Int)(d:ByteArray)(e f:Int)(g h i l m n o p q:LV)(r:Int)(s:V)(t u:LV)(v:Int)(Ko:Cu R J61)(Kr:Cu R J59):OV R:=l35_0g G k Ko Kr k a b c d e f g h i l m n o p q r s t u v
def L35{R:Type}(G:ORC R)(k:Nat):Nat→St→(Ex→St→OV R)→OV R
 |2,S,K=>P35_2h.mat S fun vs=>uc J60 (l35_2g G k (koX J58 P35_2x K) (koR J59 P35_2r K) k) vs none
 |0,S,K=>P35_0h.mat S fun vs=>uc J58 (l35_0g G k (koX J61 P35_0x K) (koR J59 P35_0r K) k) vs none
 |_,_,_=>none
def f35{R:Type}(G:ORC R)(k:Nat)(a:Int)(b c:ByteArray)(d e:Int)(f g h i l m n o p:LV)(q:Int)(r:V)(s t:LV)(u:Int)(K:LV→OV R):OV R:=
 (l35_0 G k a b 0 c d e f g h i l m n o p q r s t u (fun a b c d e f g d e f g d e f g d h=>K [.int .i64 (-1),.str a,.int .i64 b,.int .i64 c,.int .i64 e,f,.sl 1 g,.sl 2 d,.int .i64 h]) (fun a b c d e f g h e f g h e f g h e i=>K [.int .i64 a,.str b,.int .i64 c,.int .i64 d,.int .i64 f,g,.sl 1 h,.sl 2 e,.int .i64 i]))
abbrev g35 {R:Type} (G:ORC R) (k:Nat):LV→(LV→OV R)→OV R:=gF J62 (f35 G k)
theorem s35{R:Type}{G:ORC R}{k:Nat}(hG:Sound Try.prog TAB G):TL 35 (g35 G k):=
 gG J62 (by kernel_rfl) (callF_sound (L:=L35 G k) (f:=35) TAB_chk MO hG Try.func35 (sg:=S35) (by kernel_rfl) (by kernel_rfl) (las [0,2] (by kernel_rfl) ⟨loopIs J58 k (fun K X=>b35_0 G k X (koX J61 P35_0x K) (koR J59 P35_0r K)) P35_0h P35_0x P35_0r (by kernel_rfl) (by kernel_rfl) (by kernel_rfl) (fun K X=>by kernel_rfl) (fun S K=>by kernel_rfl),loopIs J60 k (fun K X=>b35_2 G k X (koX J58 P35_2x K) (koR J59 P35_2r K)) P35_2h P35_2x P35_2r (by kernel_rfl) (by kernel_rfl) (by kernel_rfl) (fun K X=>by kernel_rfl) (fun S K=>by kernel_rfl),trivial⟩))
def f36{R:Type}(G:ORC R)(k:Nat)(a:LV)(b:Int)(K:LV→OV R):OV R:=
 (G 63 [.sl 1 a,.int .i64 b] fun a=>uI .i64 a fun a b=>unNil b (K [.bool (decide (a≥0))]))
abbrev g36 {R:Type} (G:ORC R) (k:Nat):LV→(LV→OV R)→OV R:=gF J31 (f36 G k)
theorem s36{R:Type}{G:ORC R}{k:Nat}(hG:Sound Try.prog TAB G):TL 36 (g36 G k):=
 gG J31 (by kernel_rfl) (callF_sound (L:=fun _ _ _=>none) (f:=36) TAB_chk MO hG Try.func36 (sg:=S36) (by kernel_rfl) (by kernel_rfl) (las [] (by kernel_rfl) trivial))
def P37_0h:Pat:={tmps:=unds [pU,pI,pS 3,pU,pS 5,.stat (.one (.fn 64 [.ptr 3 0,.ptr 5 0]) .pt)] 16 (unds [.stat (.ref (.b 0 14) 0),pI,pI] 48 []),boxes:=nons [some B16,none,none,some B17,none,some B18] 68 []}
def P37_0x:Pat:={tmps:=unds [pU,pI,pS 3,pU,pU,.stat (.one (.fn 64 [.ptr 3 0,.ptr 5 0]) .pt)] 67 [],boxes:=nons [some B16,none,none,some B17,none,some B18] 68 []}
def P37_0r:Pat:={tmps:=unds [] 73 [],boxes:=nons [some B16] 73 []}
def b37_0{R:Type}(G:ORC R)(k:Nat)(X:Cu R J64)(Ko:Cu R J63)(Kr:Cu R J61)(a b c:Int)(d:ByteArray)(e f:Int)(g h i l m n o p q:LV)(r:Int)(s:V)(t u:LV)(v w x y z A:Int)(B:ByteArray):OV R:=
 (bif(decide (c<b))then(bif((decide (0≤c))&&(decide (c<(t.length:Int))))then(nthK t (Int.toNat c) fun C=>aI .i64 C fun C=>bif((decide (0≤C))&&(decide (C<(m.length:Int))))then(nthK m (Int.toNat C) fun D=>ca6 D fun D E F H I E=>aI .i64 D fun D=>G 64 [.int .i64 C,.str d,.int .i64 e,.int .i64 f,.sl 1 g,.sl 1 h,.sl 1 i,.sl 7 l,.sl 6 m,.sl 1 n,.sl 1 o,.sl 1 p,.sl 1 q,.int .i64 r,s,.sl 1 t,.sl 2 u,.int .i64 v,.int .i64 w,.int .i64 x,.int .i64 y,.int .i64 z,.int .i64 A,.str B] fun C=>uB C fun C E=>uS E fun E F=>uI .i64 F fun F H=>uI .i64 H fun H I=>uI .i64 I fun I J=>uI .i64 J fun J L=>uI .i64 L fun L M=>uI .i64 M fun M N=>uI .i64 N fun N O=>uI .i64 O fun O P=>uI .i64 P fun P Q=>uS Q fun Q S=>unNil S (bif C then(bif(D==L)then(Kr E F H g h i l m n o p q I s t u J)else(G 66 [.sl 7 l,.int .i64 L,.int .i64 D] fun C=>uB C fun C D=>unNil D (bif(!C)then(Kr E F H g h i l m n o p q I s t u J)else(X a b (IntKind.i64.wrap (c+1)) E F H g h i l m n o p q I s t u J L M N O P Q))))else(X a b (IntKind.i64.wrap (c+1)) E F H g h i l m n o p q I s t u J L M N O P Q)))else none)else none)else(Ko a d e f g h i l m n o p q r s t u v w x y z A B))
def l37_0g{R:Type}(G:ORC R)(k:Nat)(Ko:Cu R J63)(Kr:Cu R J61)(j:Nat):Cu R J64:=lup J64 (fun X=>b37_0 G k X Ko Kr) j
def l37_0{R:Type}(G:ORC R)(k:Nat)(a b c:Int)(d:ByteArray)(e f:Int)(g h i l m n o p q:LV)(r:Int)(s:V)(t u:LV)(v w x y z A:Int)(B:ByteArray)(Ko:Cu R J63)(Kr:Cu R J61):OV R:=l37_0g G k Ko Kr k a b c d e f g h i l m n o p q r s t u v w x y z A B
def L37{R:Type}(G:ORC R)(k:Nat):Nat→St→(Ex→St→OV R)→OV R
 |0,S,K=>P37_0h.mat S fun vs=>uc J64 (l37_0g G k (koX J63 P37_0x K) (koR J61 P37_0r K) k) vs none
 |_,_,_=>none
def f37{R:Type}(G:ORC R)(k:Nat)(a:Int)(b:ByteArray)(c d:Int)(e f g h i l m n o:LV)(p:Int)(q:V)(r s:LV)(t:Int)(K:LV→OV R):OV R:=
 (bif((decide (0≤a))&&(decide (a<(i.length:Int))))then(nthK i (Int.toNat a) fun u=>V.asAgg u fun u=>ce6 u fun u v w x y z=>aI .i64 u fun u=>aI .i64 v fun v=>aI .i64 w fun w=>aI .i64 x fun x=>aI .i64 y fun y=>V.asStr z fun z=>l37_0 G k a (r.length:Int) 0 b c d e f g h i l m n o p q r s t u v w x y z (fun a b c d e f g h i l m n o p q r s t u v w x y z=>G 131098 [.sl 1 r,.str b,.int .i64 c,.int .i64 d,.sl 1 e,.sl 1 f,.sl 1 g,.sl 7 h,.sl 6 i,.sl 1 l,.sl 1 m,.sl 1 n,.sl 1 o,.int .i64 p,q,.undef,.sl 2 s,.int .i64 t,.int .i64 u,.int .i64 v,.int .i64 w,.int .i64 x,.int .i64 y,.str z] fun b=>uL 1 b fun b c=>uS c fun c d=>uI .i64 d fun d e=>uI .i64 e fun e f=>uI .i64 f fun f g=>uI .i64 g fun g h=>uI .i64 h fun h i=>uI .i64 i fun h i=>uI .i64 i fun h i=>uI .i64 i fun h i=>uI .i64 i fun h i=>uS i fun h i=>unNil i (bif(decide (List.length b+1≤1073741824))then(K [.str c,.int .i64 d,.int .i64 e,.int .i64 f,q,.sl 1 (b++[.int .i64 a]),.sl 2 s,.int .i64 g])else none)) (fun a b c d e f g d e f g d e f g d h=>K [.str a,.int .i64 b,.int .i64 c,.int .i64 e,f,.sl 1 g,.sl 2 d,.int .i64 h]))else none)
abbrev g37 {R:Type} (G:ORC R) (k:Nat):LV→(LV→OV R)→OV R:=gF J59 (f37 G k)
theorem s37{R:Type}{G:ORC R}{k:Nat}(hG:Sound Try.prog TAB G):TL 37 (g37 G k):=
 gG J59 (by kernel_rfl) (callF_sound (L:=L37 G k) (f:=37) TAB_chk MO hG Try.func37 (sg:=S37) (by kernel_rfl) (by kernel_rfl) (las [0] (by kernel_rfl) ⟨loopIs J64 k (fun K X=>b37_0 G k X (koX J63 P37_0x K) (koR J61 P37_0r K)) P37_0h P37_0x P37_0r (by kernel_rfl) (by kernel_rfl) (by kernel_rfl) (fun K X=>by kernel_rfl) (fun S K=>by kernel_rfl),trivial⟩))
def P38_0h:Pat:={tmps:=unds [pL,pL,pU,pU,pU,.var (.sl 1) (.own true),pI] 21 [],boxes:=nons [] 28 []}
def P38_0x:Pat:={tmps:=unds [] 5 (unds [.var (.sl 1) (.own true)] 22 []),boxes:=nons [] 28 []}
def b38_0{R:Type}(G:ORC R)(k:Nat)(X:Cu R J65)(Ko:Cu R J34)(a b c:LV)(d:Int):OV R:=
 (bif(decide (d<(a.length:Int)))then(bif((decide (0≤d))&&(decide (d<(a.length:Int))))then(nthK a (Int.toNat d) fun e=>aI .i64 e fun e=>G 17 [.sl 1 b,.int .i64 e] fun e=>uB e fun e f=>unNil f (bif(!e)then(bif((decide (0≤d))&&(decide (d<(a.length:Int))))then(nthK a (Int.toNat d) fun e=>aI .i64 e fun e=>bif(decide (List.length c+1≤1073741824))then(X a b (c++[.int .i64 e]) (IntKind.i64.wrap (d+1)))else none)else none)else(X a b c (IntKind.i64.wrap (d+1)))))else none)else(Ko c))
def l38_0g{R:Type}(G:ORC R)(k:Nat)(Ko:Cu R J34)(j:Nat):Cu R J65:=lup J65 (fun X=>b38_0 G k X Ko) j
def l38_0{R:Type}(G:ORC R)(k:Nat)(a b c:LV)(d:Int)(Ko:Cu R J34):OV R:=l38_0g G k Ko k a b c d
def L38{R:Type}(G:ORC R)(k:Nat):Nat→St→(Ex→St→OV R)→OV R
 |0,S,K=>P38_0h.mat S fun vs=>uc J65 (l38_0g G k (koX J34 P38_0x K) k) vs none
 |_,_,_=>none
def f38{R:Type}(G:ORC R)(k:Nat)(a b:LV)(K:LV→OV R):OV R:=
 (l38_0 G k a b [] 0 (fun a=>K [.sl 1 a]))
abbrev g38 {R:Type} (G:ORC R) (k:Nat):LV→(LV→OV R)→OV R:=gF J23 (f38 G k)
theorem s38{R:Type}{G:ORC R}{k:Nat}(hG:Sound Try.prog TAB G):TL 38 (g38 G k):=
 gG J23 (by kernel_rfl) (callF_sound (L:=L38 G k) (f:=38) TAB_chk MO hG Try.func38 (sg:=S38) (by kernel_rfl) (by kernel_rfl) (las [0] (by kernel_rfl) ⟨loopIs J65 k (fun K X=>b38_0 G k X (koX J34 P38_0x K)) P38_0h P38_0x default (by kernel_rfl) (by kernel_rfl) (by kernel_rfl) (fun K X=>by kernel_rfl) (fun S K=>by kernel_rfl),trivial⟩))
def P39_0h:Pat:={tmps:=unds [.var (.sl 7) .ro,pI,pU,pU,pU,.var (.sl 1) (.own true),pI] 23 [],boxes:=nons [] 30 []}
def P39_0x:Pat:={tmps:=unds [] 5 (unds [.var (.sl 1) (.own true)] 24 []),boxes:=nons [] 30 []}
def b39_0{R:Type}(G:ORC R)(k:Nat)(X:Cu R J66)(Ko:Cu R J34)(a:LV)(b:Int)(c:LV)(d:Int):OV R:=
 (bif(decide (d<(a.length:Int)))then(G 18 [.sl 7 a,.int .i64 b] fun e=>uB e fun e f=>unNil f (bif e then(bif((decide (0≤d))&&(decide (d<(a.length:Int))))then(nthK a (Int.toNat d) fun e=>ca7 e fun e f g h e i g=>aI .i64 f fun e=>bif(e==b)then(bif(decide (List.length c+1≤1073741824))then(X a b (c++[.int .i64 d]) (IntKind.i64.wrap (d+1)))else none)else(X a b c (IntKind.i64.wrap (d+1))))else none)else(Ko c)))else(Ko c))
def l39_0g{R:Type}(G:ORC R)(k:Nat)(Ko:Cu R J34)(j:Nat):Cu R J66:=lup J66 (fun X=>b39_0 G k X Ko) j
def l39_0{R:Type}(G:ORC R)(k:Nat)(a:LV)(b:Int)(c:LV)(d:Int)(Ko:Cu R J34):OV R:=l39_0g G k Ko k a b c d
def L39{R:Type}(G:ORC R)(k:Nat):Nat→St→(Ex→St→OV R)→OV R
 |0,S,K=>P39_0h.mat S fun vs=>uc J66 (l39_0g G k (koX J34 P39_0x K) k) vs none
 |_,_,_=>none
def f39{R:Type}(G:ORC R)(k:Nat)(a:LV)(b:Int)(K:LV→OV R):OV R:=
 (l39_0 G k a b [] 0 (fun a=>K [.sl 1 a]))
abbrev g39 {R:Type} (G:ORC R) (k:Nat):LV→(LV→OV R)→OV R:=gF J32 (f39 G k)
theorem s39{R:Type}{G:ORC R}{k:Nat}(hG:Sound Try.prog TAB G):TL 39 (g39 G k):=
 gG J32 (by kernel_rfl) (callF_sound (L:=L39 G k) (f:=39) TAB_chk MO hG Try.func39 (sg:=S39) (by kernel_rfl) (by kernel_rfl) (las [0] (by kernel_rfl) ⟨loopIs J66 k (fun K X=>b39_0 G k X (koX J34 P39_0x K)) P39_0h P39_0x default (by kernel_rfl) (by kernel_rfl) (by kernel_rfl) (fun K X=>by kernel_rfl) (fun S K=>by kernel_rfl),trivial⟩))
def g41{R:Type}(G:ORC R)(k:Nat)(args:LV)(K:LV→OV R):OV R:=match args with
 | [.sl 1 l]=>bif decide (l.length≤1000000)then(bif flats l then K [.sl 1 l]else none)else none
 |_=>none
theorem cloneG{l:LV}(h:l.length≤1000000)(hp:flats l=true):∃q,callN (TAB.env 41) Try.f41 S41 [.sl 1 l]=some ([.sl 1 l],q)∧∀o1,q=some o1→o1=[.sl 1 l]:=by
 cases l with
 |nil=>exact⟨some [.sl 1 []],by kernel_rfl,fun o1 h=>by cases h;rfl⟩
 |cons v r=>
  refine⟨none,?_,fun o1 h=>by cases h⟩
  have e:callN (TAB.env 41) Try.f41 S41 [.sl 1 (v::r)]=(bif decide (([]:LV).length+(v::r).length≤1073741824)then(bif flats (v::r)then some [V.sl 1 ([]++(v::r))]else none)else none).bind fun o0=>some (o0,none):=by kernel_rfl
  rw[e,decide_eq_true (by simp at h ⊢;omega),hp]
  rfl
theorem s41{R:Type}{G:ORC R}{k:Nat}(hG:Sound Try.prog TAB G)(args:LV)(K:LV→OV R)(r:R)(h:g41 G k args K=some r):∃o,CallOK Try.prog TAB.env 41 args o∧K o=some r:=by
 unfold g41 at h
 split at h
 ·rename_i l
  by_cases hl:l.length≤1000000
  ·rw[decide_eq_true hl]at h
   cases hp:flats l with
   |false=>rw[hp]at h;cases h
   |true=>
   rw[hp]at h
   obtain⟨q,e,hq⟩:=cloneG hl hp
   exact⟨_,callN_sound (f:=41) TAB_chk MO Try.func41 (sg:=S41) (by kernel_rfl) (by kernel_rfl) (fun{R}=>loopsAre_of (by rw[show loopsOf (bodyOf Try.f41)=[]from by kernel_rfl];intro p hp;cases hp)) e hq,h⟩
  ·rw[decide_eq_false hl]at h;cases h
 ·cases h
set_option linter.unusedSimpArgs false
theorem row_set{w:World}{β off:Nat}{c:Array Value}{ty:TypeId}{n:Int}(h:w.heap[β]? =some (.cells c ty (0,0)))(ho:off<c.size):w.setCell ⟨β,off,none⟩ (.int .i64 n)=w.setRow β (rec1 c off n):=by
 rw[setCell_eq_setRow w β off c ty (0,0) _ h]
 congr 1
 apply Array.ext'
 unfold rec1
 simp[List.set_eq_take_append_cons_drop,ho]
theorem row_get{w:World}{β:Nat}{c c':Array Value}{ty:TypeId}(h:w.heap[β]? =some (.cells c ty (0,0))):(w.setRow β c').heap[β]? =some (.cells c' ty (0,0)):=by
 simp only[World.setRow,Array.getElem?_modify,if_true,h,Option.map_some]
theorem rec1_size{c:Array Value}{off:Nat}{n:Int}(ho:off<c.size):(rec1 c off n).size=c.size:=by
 unfold rec1;simp;omega
theorem cell_at{w:World}{β off:Nat}{c:Array Value}{ty:TypeId}(h:w.heap[β]? =some (.cells c ty (0,0)))(ho:off<c.size):w.cell? ⟨β,off,none⟩=some c[off]∧w.frozen? ⟨β,off,none⟩=false:=by
 constructor
 ·simp[World.cell?,h,ho]
 ·simp[World.frozen?,h]
theorem catch_idle(β:Nat)(w:World):CallsD Try.prog 70 #[.pointer (some ⟨β,0,none⟩)] .returning w fun e u' w'=>(∃v,e= .returned v)∧u'= .returning∧w'=w:=by
 refine callsD_of_wpS Try.func70 rfl fun c₀ cs hu=> ?_
 apply wpS_seq
 apply wpS_region
 simp[wpOpsS,go_sem,recoverD,hu,Exit.thenS]
 apply wpS_seq
 apply wpS_region
 simp[wpOpsS,go_sem,Exit.thenS]
 refine wpS_cond (t:=false) (by simp[Act.eval,Array.replicate]) ?_
 simp only[Bool.false_eq_true,if_false]
 refine wpS_of_wp (wp_skip ?_)
 cases c₀
 simp_all [bodyPostS,results]
theorem under_pan:Try.prog.underlying 102=some (.int .i64):=by kernel_rfl
theorem assert_pan{n:Int}{w:World}{x:TypeId}:(Instr.typeAssert (.iface 102 (.int .i64 n)) x 102 true).run Try.prog w= .ok (.tuple #[.int .i64 n,.bool true]) w:=by
 simp[Instr.typeAssert,run_underlying under_pan]
theorem catch_pan(β:Nat)(c:Array Value)(ty:TypeId)(w:World)(n:Int)(hw:w.heap[β]? =some (.cells c ty (0,0)))(hc:c.size=6):
 CallsD Try.prog 70 #[.pointer (some ⟨β,0,none⟩)] (.panicking [{v:=.iface 102 (.int .i64 n),recovered:=false}]) w fun e u' w'=>(∃v,e= .returned v)∧u'= .panicking [{v:=.iface 102 (.int .i64 n),recovered:=true}]∧w'=recW w β c n:=by
 obtain⟨c0,z0⟩:=cell_at (off:=0) hw (by omega)
 have e0:=row_set (off:=0) (n:=0) hw (by omega)
 have hw1:=row_get (c':=rec1 c 0 0) hw
 have s1:(rec1 c 0 0).size=6:=by rw[rec1_size (by omega),hc]
 obtain⟨c5,z5⟩:=cell_at (off:=5) hw1 (by omega)
 have e5:=row_set (off:=5) (n:=n) hw1 (by omega)
 refine callsD_of_wpS Try.func70 rfl fun c₀ cs hu=> ?_
 apply wpS_seq
 apply wpS_region
 simp[wpOpsS,go_sem,recoverD,hu,Exit.thenS]
 apply wpS_seq
 apply wpS_region
 simp[wpOpsS,go_sem,Exit.thenS]
 refine wpS_cond (t:=true) (by simp[Act.eval,Array.replicate]) ?_
 simp only[if_true]
 apply wpS_seq
 apply wpS_region
 simp[wpOpsS,go_sem,Exit.thenS,c0,z0,e0]
 apply wpS_seq
 apply wpS_region
 simp[wpOpsS,go_sem,Exit.thenS,assert_pan]
 apply wpS_seq
 apply wpS_region
 simp[wpOpsS,go_sem,Exit.thenS,c5,z5,e5]
 apply wpS_seq
 apply wpS_region
 simp[wpOpsS,go_sem,Exit.thenS]
 refine wpS_cond (t:=false) (by simp[Act.eval,Act.put,Array.replicate]) ?_
 simp only[Bool.false_eq_true,if_false]
 refine wpS_of_wp (wp_skip ?_)
 cases c₀
 simp_all [bodyPostS,results,recW,Act.put]
theorem catch70:Catches Try.prog 70 102:=⟨⟨Try.f70,Try.func70,rfl,rfl⟩,catch_pan,catch_idle⟩
def P50_0h:Pat:={tmps:=unds [.var (.sl 4) .ro,pU,pU,pI,pU,pU,pU,pU,pS 8,pS 20] 67 [],boxes:=nons [] 8 (nons [some B19] 11 (nons [some B20] 56 []))}
def P50_0x:Pat:={tmps:=unds [] 8 (unds [pS 8,pS 20] 67 []),boxes:=nons [] 8 (nons [some B19] 11 (nons [some B20] 56 []))}
def P50_0r:Pat:={tmps:=unds [] 8 (unds [pS 8] 68 []),boxes:=nons [] 8 (nons [some B19] 68 [])}
def b50_0{R:Type}(G:ORC R)(k:Nat)(X:Cu R J72)(Ko:Cu R J70)(Kp:Cu R (.int .i64::J71))(a:LV)(b c:Int)(d e f:LV)(g h:Int)(i:LV)(l m n:Int)(o p:LV)(q:Int):OV R:=
 (bif(decide (q≥0))then(bif(decide (q<(a.length:Int)))then(bif(decide (g≥b))then(Kp 4 c d e f g h)else(bif((decide (0≤q))&&(decide (q<(a.length:Int))))then(nthK a (Int.toNat q) fun r=>V.asAgg r fun r=>G 71 [.agg r,.sl 4 i,.int .u64 l,.int .u64 m,.int .i64 n,.sl 1 o,.sl 1 p,.int .i64 q,.int .i64 c,.sl 1 d,.sl 2 e,.sl 4 f,.int .i64 (IntKind.i64.wrap (g+1)),.int .i64 h] fun r=>uB r fun r s=>uI .i64 s fun s t=>uI .u64 t fun t u=>uI .u64 u fun u v=>uI .i64 v fun v w=>uL 1 w fun w x=>uL 1 x fun x y=>uI .i64 y fun y z=>uI .i64 z fun z A=>uL 1 A fun A B=>uL 2 B fun B C=>uL 4 C fun C D=>uI .i64 D fun D E=>uI .i64 E fun E F=>unNil F (bif r then(Kp s z A B C D E)else(X a b z A B C D E i t u v w x y)))else none))else(Ko c d e f g h i l m n o p q))else(Ko c d e f g h i l m n o p q))
def l50_0g{R:Type}(G:ORC R)(k:Nat)(Ko:Cu R J70)(Kp:Cu R (.int .i64::J71))(j:Nat):Cu R J72:=lup J72 (fun X=>b50_0 G k X Ko Kp) j
def l50_0{R:Type}(G:ORC R)(k:Nat)(a:LV)(b c:Int)(d e f:LV)(g h:Int)(i:LV)(l m n:Int)(o p:LV)(q:Int)(Ko:Cu R J70)(Kp:Cu R (.int .i64::J71)):OV R:=l50_0g G k Ko Kp k a b c d e f g h i l m n o p q
def L50{R:Type}(G:ORC R)(k:Nat):Nat→St→(Ex→St→OV R)→OV R
 |0,S,K=>P50_0h.mat S fun vs=>uc J72 (l50_0g G k (koX J70 P50_0x K) (koP J71 P50_0r K) k) vs none
 |_,_,_=>none
def f50{R:Type}(G:ORC R)(k:Nat)(a b c d:LV)(d e:Int)(K:LV→OV R):OV R:=
 (G 41 [.sl 1 c] fun c=>uL 1 c fun c f=>unNil f (G 69 [.sl 1 b] fun b=>uA b fun b f=>uI .u64 b fun b g=>uI .u64 g fun g h=>unNil h (unNil f (l50_0 G k a (bif(decide (0<(bif(decide (1048576<e))then 1048576 else e)))then(bif(decide (1048576<e))then 1048576 else e)else 0) 0 c [] [] 0 0 a b g d [] [] 0 (fun a b c d e f g h i l g h i=>bif(decide ((g.length:Int)>0))then(bif((decide (0≤(IntKind.i64.wrap ((g.length:Int)-1))))&&(decide ((IntKind.i64.wrap ((g.length:Int)-1))<(g.length:Int))))then(nthK g (Int.toNat (IntKind.i64.wrap ((g.length:Int)-1))) fun g=>aI .i64 g fun g=>K [.agg [.int .i64 g,.sl 1 b,.sl 2 c,.sl 4 d,.int .i64 e,.int .i64 f]])else none)else(K [.agg [.int .i64 a,.sl 1 b,.sl 2 c,.sl 4 d,.int .i64 e,.int .i64 f]])) (fun a b c d e b f=>K [.agg [.int .i64 0,.sl 1 c,.sl 2 d,.sl 4 e,.int .i64 b,.int .i64 a]])))))
abbrev g50 {R:Type} (G:ORC R) (k:Nat):LV→(LV→OV R)→OV R:=gF J73 (f50 G k)
theorem s50{R:Type}{G:ORC R}{k:Nat}(hG:Sound Try.prog TAB G):TL 50 (g50 G k):=
 gG J73 (by kernel_rfl) (callD_sound catch70 (L:=L50 G k) (f:=50) TAB_chk MO hG Try.func50 (sg:=S50) (by kernel_rfl) (by kernel_rfl) (las [0] (by kernel_rfl) ⟨loopIs J72 k (fun K X=>b50_0 G k X (koX J70 P50_0x K) (koP J71 P50_0r K)) P50_0h P50_0x P50_0r (by kernel_rfl) (by kernel_rfl) (by kernel_rfl) (fun K X=>by kernel_rfl) (fun S K=>by kernel_rfl),trivial⟩))
def f61{R:Type}(G:ORC R)(k:Nat)(a:LV)(b:Int)(K:LV→OV R):OV R:=
 (bif(decide (b≥0))then(K [.bool (decide (b<(a.length:Int)))])else(K [.bool false]))
abbrev g61 {R:Type} (G:ORC R) (k:Nat):LV→(LV→OV R)→OV R:=gF J32 (f61 G k)
theorem s61{R:Type}{G:ORC R}{k:Nat}(hG:Sound Try.prog TAB G):TL 61 (g61 G k):=
 gG J32 (by kernel_rfl) (callF_sound (L:=fun _ _ _=>none) (f:=61) TAB_chk MO hG Try.func61 (sg:=S61) (by kernel_rfl) (by kernel_rfl) (las [] (by kernel_rfl) trivial))
def f62{R:Type}(G:ORC R)(k:Nat)(a:Int)(b:ByteArray)(c d:Int)(e f g h e f g h i:LV)(l:Int)(m:V)(n o:LV)(p:Int)(K:LV→OV R):OV R:=
 (bif((decide (0≤a))&&(decide (a<(e.length:Int))))then(nthK e (Int.toNat a) fun e=>ca6 e fun e q r s e q=>aI .i64 s fun e=>bif(decide (e<0))then(K [.bool true,.str b,.int .i64 c,.int .i64 d,.int .i64 l,m,.sl 1 n,.sl 2 o,.int .i64 p])else(bif(decide (e≥(f.length:Int)))then(K [.bool true,.str b,.int .i64 c,.int .i64 d,.int .i64 l,m,.sl 1 n,.sl 2 o,.int .i64 p])else(V.asMp m fun q=>bif(Option.isSome (mpGet q a))then(K [.bool (Option.getD (mpGet q a) false),.str b,.int .i64 c,.int .i64 d,.int .i64 l,m,.sl 1 n,.sl 2 o,.int .i64 p])else(bif((decide (0≤e))&&(decide (e<(f.length:Int))))then(nthK f (Int.toNat e) fun e=>V.asSl e fun e f=>G 50 [.sl e f,.agg [.sl 1 g,.sl 1 h,.sl 1 i],.int .i64 l,.int .i64 d] fun e=>uA e fun e f=>uI .i64 e fun e g=>uL 1 g fun g h=>uL 2 h fun g h=>uL 4 h fun g h=>uI .i64 h fun g h=>uI .i64 h fun h i=>unNil i (unNil f (bif(h !=0)then(bif(decide (List.length o+1≤1073741824))then(bif(h==0)then(V.asMp m fun f=>K [.bool (Option.getD (mpGet (mpPut f a (e !=0)) a) false),.str b,.int .i64 c,.int .i64 d,.int .i64 l,.mp (mpPut f a (e !=0)),.sl 1 n,.sl 2 (o++[.agg [.str ⟨#[101,114,114,111,114]⟩,.int .i64 h]]),.int .i64 (IntKind.i64.wrap (p+g))])else(V.asMp m fun f=>K [.bool (Option.getD (mpGet (mpPut f a false) a) false),.str b,.int .i64 c,.int .i64 d,.int .i64 l,.mp (mpPut f a false),.sl 1 n,.sl 2 (o++[.agg [.str ⟨#[101,114,114,111,114]⟩,.int .i64 h]]),.int .i64 (IntKind.i64.wrap (p+g))]))else none)else(bif(h==0)then(V.asMp m fun f=>K [.bool (Option.getD (mpGet (mpPut f a (e !=0)) a) false),.str b,.int .i64 c,.int .i64 d,.int .i64 l,.mp (mpPut f a (e !=0)),.sl 1 n,.sl 2 o,.int .i64 (IntKind.i64.wrap (p+g))])else(V.asMp m fun e=>K [.bool (Option.getD (mpGet (mpPut e a false) a) false),.str b,.int .i64 c,.int .i64 d,.int .i64 l,.mp (mpPut e a false),.sl 1 n,.sl 2 o,.int .i64 (IntKind.i64.wrap (p+g))])))))else none))))else none)
abbrev g62 {R:Type} (G:ORC R) (k:Nat):LV→(LV→OV R)→OV R:=gF J59 (f62 G k)
theorem s62{R:Type}{G:ORC R}{k:Nat}(hG:Sound Try.prog TAB G):TL 62 (g62 G k):=
 gG J59 (by kernel_rfl) (callF_sound (L:=fun _ _ _=>none) (f:=62) TAB_chk MO hG Try.func62 (sg:=S62) (by kernel_rfl) (by kernel_rfl) (las [] (by kernel_rfl) trivial))
def P63_0h:Pat:={tmps:=unds [pL,pI] 5 (unds [pI,pI] 10 []),boxes:=nons [] 19 []}
def P63_0x:Pat:={tmps:=unds [] 19 [],boxes:=nons [] 19 []}
def P63_0r:Pat:={tmps:=unds [pU,pU,pU,pU,pI] 14 [],boxes:=nons [] 19 []}
def b63_0{R:Type}(G:ORC R)(k:Nat)(X:Cu R J74)(Ko:Cu R J11)(Kr:Cu R J14)(a:LV)(b c d:Int):OV R:=
 (bif(decide (d<c))then(bif((decide (0≤d))&&(decide (d<(a.length:Int))))then(nthK a (Int.toNat d) fun e=>aI .i64 e fun e=>bif(b==e)then(Kr d)else(X a b c (IntKind.i64.wrap (d+1))))else none)else(Ko ()))
def l63_0g{R:Type}(G:ORC R)(k:Nat)(Ko:Cu R J11)(Kr:Cu R J14)(j:Nat):Cu R J74:=lup J74 (fun X=>b63_0 G k X Ko Kr) j
def l63_0{R:Type}(G:ORC R)(k:Nat)(a:LV)(b c d:Int)(Ko:Cu R J11)(Kr:Cu R J14):OV R:=l63_0g G k Ko Kr k a b c d
def L63{R:Type}(G:ORC R)(k:Nat):Nat→St→(Ex→St→OV R)→OV R
 |0,S,K=>P63_0h.mat S fun vs=>uc J74 (l63_0g G k (koX J11 P63_0x K) (koR J14 P63_0r K) k) vs none
 |_,_,_=>none
def f63{R:Type}(G:ORC R)(k:Nat)(a:LV)(b:Int)(K:LV→OV R):OV R:=
 (l63_0 G k a b (a.length:Int) 0 (fun(_:Unit)=>K [.int .i64 (-1)]) (fun a=>K [.int .i64 a]))
abbrev g63 {R:Type} (G:ORC R) (k:Nat):LV→(LV→OV R)→OV R:=gF J31 (f63 G k)
theorem s63{R:Type}{G:ORC R}{k:Nat}(hG:Sound Try.prog TAB G):TL 63 (g63 G k):=
 gG J31 (by kernel_rfl) (callF_sound (L:=L63 G k) (f:=63) TAB_chk MO hG Try.func63 (sg:=S63) (by kernel_rfl) (by kernel_rfl) (las [0] (by kernel_rfl) ⟨loopIs J74 k (fun K X=>b63_0 G k X (koX J11 P63_0x K) (koR J14 P63_0r K)) P63_0h P63_0x P63_0r (by kernel_rfl) (by kernel_rfl) (by kernel_rfl) (fun K X=>by kernel_rfl) (fun S K=>by kernel_rfl),trivial⟩))
def f64{R:Type}(G:ORC R)(k:Nat)(a:Int)(b:ByteArray)(c d:Int)(e f g h e f g i l:LV)(f:Int)(g i:V)(g:LV)(g i l m n o:Int)(p:ByteArray)(K:LV→OV R):OV R:=
 (bif((decide (0≤a))&&(decide (a<(e.length:Int))))then(nthK e (Int.toNat a) fun a=>V.asAgg a fun a=>G 65 [.sl 7 h,.agg [.int .i64 i,.int .i64 l,.int .i64 m,.int .i64 n,.int .i64 o,.str p],.agg a] fun a=>uB a fun a e=>unNil e (K [.bool a,.str b,.int .i64 c,.int .i64 d,.int .i64 f,.int .i64 g,.int .i64 i,.int .i64 l,.int .i64 m,.int .i64 n,.int .i64 o,.str p]))else none)
abbrev g64 {R:Type} (G:ORC R) (k:Nat):LV→(LV→OV R)→OV R:=gF J87 (f64 G k)
theorem s64{R:Type}{G:ORC R}{k:Nat}(hG:Sound Try.prog TAB G):TL 64 (g64 G k):=
 gG J87 (by kernel_rfl) (callF_sound (L:=fun _ _ _=>none) (f:=64) TAB_chk MO hG Try.func64 (sg:=S64) (by kernel_rfl) (by kernel_rfl) (las [] (by kernel_rfl) trivial))
def f65{R:Type}(G:ORC R)(k:Nat)(a:LV)(b c d e b:Int)(b:ByteArray)(b c e f b:Int)(b:ByteArray)(K:LV→OV R):OV R:=
 (bif(d !=(-1))then(bif(e !=(-1))then(G 66 [.sl 7 a,.int .i64 d,.int .i64 e] fun b=>uB b fun b c=>unNil c (bif b then(K [.bool true])else(G 66 [.sl 7 a,.int .i64 e,.int .i64 d] fun a=>uB a fun a b=>unNil b (K [.bool a]))))else(K [.bool false]))else(K [.bool false]))
abbrev g65 {R:Type} (G:ORC R) (k:Nat):LV→(LV→OV R)→OV R:=gF J88 (f65 G k)
theorem s65{R:Type}{G:ORC R}{k:Nat}(hG:Sound Try.prog TAB G):TL 65 (g65 G k):=
 gG J88 (by kernel_rfl) (callF_sound (L:=fun _ _ _=>none) (f:=65) TAB_chk MO hG Try.func65 (sg:=S65) (by kernel_rfl) (by kernel_rfl) (las [] (by kernel_rfl) trivial))
def f66{R:Type}(G:ORC R)(k:Nat)(a:LV)(b c:Int)(K:LV→OV R):OV R:=
 (G 61 [.sl 7 a,.int .i64 b] fun d=>uB d fun d e=>unNil e (bif d then(G 61 [.sl 7 a,.int .i64 c] fun d=>uB d fun d e=>unNil e (bif d then(bif(decide (b≥c))then(bif((decide (0≤c))&&(decide (c<(a.length:Int))))then(nthK a (Int.toNat c) fun a=>ca7 a fun a c d e a c f=>aI .i64 d fun a=>K [.bool (decide (b≤a))])else none)else(K [.bool false]))else(K [.bool false])))else(K [.bool false])))
abbrev g66 {R:Type} (G:ORC R) (k:Nat):LV→(LV→OV R)→OV R:=gF J68 (f66 G k)
theorem s66{R:Type}{G:ORC R}{k:Nat}(hG:Sound Try.prog TAB G):TL 66 (g66 G k):=
 gG J68 (by kernel_rfl) (callF_sound (L:=fun _ _ _=>none) (f:=66) TAB_chk MO hG Try.func66 (sg:=S66) (by kernel_rfl) (by kernel_rfl) (las [] (by kernel_rfl) trivial))
def P69_0h:Pat:={tmps:=unds [pU,pU,pS 2,pS 3,pU,pU,pL,pI,pI] 8 [],boxes:=nons [none,none,some B22,some B22] 13 []}
def P69_0x:Pat:={tmps:=unds [pU,pU,pS 2,pS 3] 13 [],boxes:=nons [none,none,some B22,some B22] 13 []}
def b69_0{R:Type}(G:ORC R)(k:Nat)(X:Cu R J92)(Ko:Cu R J91)(a:LV)(b c d e f g:Int):OV R:=
 (bif(decide (c<b))then(bif((decide (0≤c))&&(decide (c<(a.length:Int))))then(nthK a (Int.toNat c) fun h=>aI .i64 h fun h=>G 89 [.agg [.int .u64 f,.int .u64 g],.int .i64 h] fun h=>uA h fun h i=>uI .u64 h fun h l=>uI .u64 l fun l m=>unNil m (unNil i (X a b (IntKind.i64.wrap (c+1)) d e h l)))else none)else(Ko d e f g))
def l69_0g{R:Type}(G:ORC R)(k:Nat)(Ko:Cu R J91)(j:Nat):Cu R J92:=lup J92 (fun X=>b69_0 G k X Ko) j
def l69_0{R:Type}(G:ORC R)(k:Nat)(a:LV)(b c d e f g:Int)(Ko:Cu R J91):OV R:=l69_0g G k Ko k a b c d e f g
def L69{R:Type}(G:ORC R)(k:Nat):Nat→St→(Ex→St→OV R)→OV R
 |0,S,K=>P69_0h.mat S fun vs=>uc J92 (l69_0g G k (koX J91 P69_0x K) k) vs none
 |_,_,_=>none
def f69{R:Type}(G:ORC R)(k:Nat)(a:LV)(K:LV→OV R):OV R:=
 (l69_0 G k a (a.length:Int) 0 0 0 0 0 (fun a b c d=>K [.agg [.int .u64 c,.int .u64 d]]))
abbrev g69 {R:Type} (G:ORC R) (k:Nat):LV→(LV→OV R)→OV R:=gF J34 (f69 G k)
theorem s69{R:Type}{G:ORC R}{k:Nat}(hG:Sound Try.prog TAB G):TL 69 (g69 G k):=
 gG J34 (by kernel_rfl) (callF_sound (L:=L69 G k) (f:=69) TAB_chk MO hG Try.func69 (sg:=S69) (by kernel_rfl) (by kernel_rfl) (las [0] (by kernel_rfl) ⟨loopIs J92 k (fun K X=>b69_0 G k X (koX J91 P69_0x K)) P69_0h P69_0x default (by kernel_rfl) (by kernel_rfl) (by kernel_rfl) (fun K X=>by kernel_rfl) (fun S K=>by kernel_rfl),trivial⟩))
abbrev c71_7 {R:Type} (G:ORC R) (k:Nat) (K:LV→OV R) (a:LV):OV R:=
 (uI .u64 a fun a b=>uI .u64 b fun b c=>uI .i64 c fun c d=>uL 1 d fun d e=>uL 1 e fun e f=>uI .i64 f fun f g=>uI .i64 g fun g h=>uL 1 h fun h i=>uL 2 i fun i l=>uL 4 l fun l m=>uI .i64 m fun m n=>uI .i64 n fun n o=>unNil o (K [.bool false,.int .i64 0,.int .u64 a,.int .u64 b,.int .i64 c,.sl 1 d,.sl 1 e,.int .i64 f,.int .i64 g,.sl 1 h,.sl 2 i,.sl 4 l,.int .i64 m,.int .i64 n]))
abbrev c71_4 {R:Type} (G:ORC R) (k:Nat) (K:LV→OV R) (a b c:Int) (d:ByteArray) (e:LV) (f g h:Int) (i l:LV) (m n:Int) (o p q:LV) (r s:Int):OV R:=
 (G 97 [.agg [.int .i64 a,.int .i64 b,.int .i64 c,.str d],.sl 4 e,.int .u64 f,.int .u64 g,.int .i64 h,.sl 1 i,.sl 1 l,.int .i64 (IntKind.i64.wrap (m+1)),.int .i64 n,.sl 1 o,.sl 2 p,.sl 4 q,.int .i64 r,.int .i64 s] fun a=>c71_7 G k K a)
abbrev c71_5 {R:Type} (G:ORC R) (k:Nat) (K:LV→OV R) (a:Int) (b:LV) (c d e:Int) (f g:LV) (h i:Int) (l m n:LV) (o p:Int):OV R:=
 (G 90 [.int .i64 a,.sl 4 b,.int .u64 c,.int .u64 d,.int .i64 e,.sl 1 f,.sl 1 g,.int .i64 h,.int .i64 i,.sl 1 l,.sl 2 m,.sl 4 n,.int .i64 o,.int .i64 p] fun a=>c71_7 G k K a)
abbrev c71_3 {R:Type} (G:ORC R) (k:Nat) (K:LV→OV R) (a:LV) (b c d:Int) (e f:LV) (g h:Int) (i l m:LV) (n o:Int) (p:LV):OV R:=
 (uB a fun a q=>uI .i64 q fun q r=>uI .i64 r fun r s=>unNil s (bif a then(K [.bool true,.int .i64 q,.int .u64 b,.int .u64 c,.int .i64 d,.sl 1 e,.sl 1 f,.int .i64 g,.int .i64 h,.sl 1 i,.sl 2 l,.sl 4 m,.int .i64 n,.int .i64 o])else(c71_5 G k K r p b c d e f g h i l m n o)))
abbrev c71_1 {R:Type} (G:ORC R) (k:Nat) (K:LV→OV R) (a:LV) (b c d:Int) (e f:LV) (g h:Int) (i l m:LV) (n o p:Int):OV R:=
 (G 95 [.sl 4 a,.int .u64 b,.int .u64 c,.int .i64 d,.sl 1 e,.sl 1 f,.int .i64 (IntKind.i64.wrap (g+1)),.int .i64 h,.sl 1 i,.sl 2 l,.sl 4 m,.int .i64 n,.int .i64 o] fun b=>uI .i64 b fun b c=>uI .u64 c fun c d=>uI .u64 d fun d e=>uI .i64 e fun e f=>uL 1 f fun f g=>uL 1 g fun g h=>uI .i64 h fun h i=>uI .i64 i fun i l=>uL 1 l fun l m=>uL 2 m fun m n=>uL 4 n fun n o=>uI .i64 o fun o q=>uI .i64 q fun q r=>unNil r (G 95 [.sl 4 a,.int .u64 c,.int .u64 d,.int .i64 e,.sl 1 f,.sl 1 g,.int .i64 h,.int .i64 i,.sl 1 l,.sl 2 m,.sl 4 n,.int .i64 o,.int .i64 q] fun c=>uI .i64 c fun c d=>uI .u64 d fun d e=>uI .u64 e fun e f=>uI .i64 f fun f g=>uL 1 g fun g h=>uL 1 h fun h i=>uI .i64 i fun i l=>uI .i64 l fun l m=>uL 1 m fun m n=>uL 2 n fun n o=>uL 4 o fun o q=>uI .i64 q fun q r=>uI .i64 r fun r s=>unNil s (G 98 [.int .i64 p,.int .i64 c,.int .i64 b] fun b=>c71_3 G k K b d e f g h i l m n o q r a)))
abbrev c71_0 {R:Type} (G:ORC R) (k:Nat) (K:LV→OV R) (a b c:Int) (d:ByteArray) (e:LV) (f g h:Int) (i l:LV) (m n:Int) (o p q:LV) (r s:Int):OV R:=
 (bif(a==23)then(bif(a==23)then(c71_4 G k K a b c d e f g h i l m n o p q r s)else(c71_1 G k K e f g h i l m n o p q r s a))else(bif(a==24)then(bif(a==24)then(c71_4 G k K a b c d e f g h i l m n o p q r s)else(c71_1 G k K e f g h i l m n o p q r s a))else(bif(a==25)then(bif(a==25)then(c71_4 G k K a b c d e f g h i l m n o p q r s)else(c71_1 G k K e f g h i l m n o p q r s a))else(bif(a==26)then(c71_4 G k K a b c d e f g h i l m n o p q r s)else(c71_1 G k K e f g h i l m n o p q r s a)))))
abbrev c71_2 {R:Type} (G:ORC R) (k:Nat) (K:LV→OV R) (a b c:Int) (d:ByteArray) (e:LV) (f g h:Int) (i l:LV) (m n:Int) (o p q:LV) (r s:Int):OV R:=
 (G 96 [.agg [.int .i64 a,.int .i64 b,.int .i64 c,.str d],.sl 4 e,.int .u64 f,.int .u64 g,.int .i64 h,.sl 1 i,.sl 1 l,.int .i64 (IntKind.i64.wrap (m+1)),.int .i64 n,.sl 1 o,.sl 2 p,.sl 4 q,.int .i64 r,.int .i64 s] fun a=>uB a fun a b=>uI .i64 b fun b c=>uI .u64 c fun c d=>uI .u64 d fun d e=>uI .i64 e fun e f=>uL 1 f fun f g=>uL 1 g fun g h=>uI .i64 h fun h i=>uI .i64 i fun i l=>uL 1 l fun l m=>uL 2 m fun m n=>uL 4 n fun n o=>uI .i64 o fun o p=>uI .i64 p fun p q=>unNil q (bif a then(K [.bool true,.int .i64 b,.int .u64 c,.int .u64 d,.int .i64 e,.sl 1 f,.sl 1 g,.int .i64 h,.int .i64 i,.sl 1 l,.sl 2 m,.sl 4 n,.int .i64 o,.int .i64 p])else(K [.bool false,.int .i64 0,.int .u64 c,.int .u64 d,.int .i64 e,.sl 1 f,.sl 1 g,.int .i64 h,.int .i64 i,.sl 1 l,.sl 2 m,.sl 4 n,.int .i64 o,.int .i64 p])))
abbrev c71_6 {R:Type} (G:ORC R) (k:Nat) (K:LV→OV R) (a:Int) (b:LV) (c d e:Int) (f g:LV) (h i:Int) (l m n:LV) (o p:Int):OV R:=
 (G 90 [.int .i64 a,.sl 4 b,.int .u64 c,.int .u64 d,.int .i64 e,.sl 1 f,.sl 1 g,.int .i64 (IntKind.i64.wrap (h+1)),.int .i64 i,.sl 1 l,.sl 2 m,.sl 4 n,.int .i64 o,.int .i64 p] fun a=>c71_7 G k K a)
def f71{R:Type}(G:ORC R)(k:Nat)(a b c:Int)(d:ByteArray)(e:LV)(f g h:Int)(i l:LV)(m n:Int)(o p q:LV)(r s:Int)(K:LV→OV R):OV R:=
 (bif(a==1)then(c71_6 G k K c e f g h i l m n o p q r s)else(bif(a==2)then(bif((decide (0≤b))&&(decide (b<(o.length:Int))))then(nthK o (Int.toNat b) fun t=>aI .i64 t fun t=>c71_6 G k K t e f g h i l m n o p q r s)else none)else(bif(a==3)then(G 90 [.int .i64 h,.sl 4 e,.int .u64 f,.int .u64 g,.int .i64 h,.sl 1 i,.sl 1 l,.int .i64 (IntKind.i64.wrap (m+1)),.int .i64 n,.sl 1 o,.sl 2 p,.sl 4 q,.int .i64 r,.int .i64 s] fun t=>c71_7 G k K t)else(bif(a==4)then(G 92 [.agg [.int .u64 f,.int .u64 g],.int .i64 b] fun t=>uB t fun t u=>unNil u (G 91 [.bool t] fun t=>uI .i64 t fun t u=>unNil u (c71_6 G k K t e f g h i l m n o p q r s)))else(bif(a==5)then(G 95 [.sl 4 e,.int .u64 f,.int .u64 g,.int .i64 h,.sl 1 i,.sl 1 l,.int .i64 (IntKind.i64.wrap (m+1)),.int .i64 n,.sl 1 o,.sl 2 p,.sl 4 q,.int .i64 r,.int .i64 s] fun t=>uI .i64 t fun t u=>uI .u64 u fun u v=>uI .u64 v fun v w=>uI .i64 w fun w x=>uL 1 x fun x y=>uL 1 y fun y z=>uI .i64 z fun z A=>uI .i64 A fun A B=>uL 1 B fun B C=>uL 2 C fun C D=>uL 4 D fun D E=>uI .i64 E fun E F=>uI .i64 F fun F H=>unNil H (G 94 [.int .i64 t] fun t=>uI .i64 t fun t H=>uI .i64 H fun H I=>unNil I (G 93 [.int .i64 t,.int .i64 H] fun t=>c71_3 G k K t u v w x y z A B C D E F e)))else(bif(a==6)then(G 95 [.sl 4 e,.int .u64 f,.int .u64 g,.int .i64 h,.sl 1 i,.sl 1 l,.int .i64 (IntKind.i64.wrap (m+1)),.int .i64 n,.sl 1 o,.sl 2 p,.sl 4 q,.int .i64 r,.int .i64 s] fun t=>uI .i64 t fun t u=>uI .u64 u fun u v=>uI .u64 v fun v w=>uI .i64 w fun w x=>uL 1 x fun x y=>uL 1 y fun y z=>uI .i64 z fun z A=>uI .i64 A fun A B=>uL 1 B fun B C=>uL 2 C fun C D=>uL 4 D fun D E=>uI .i64 E fun E F=>uI .i64 F fun F H=>unNil H (G 91 [.bool (t==0)] fun t=>uI .i64 t fun t H=>unNil H (c71_5 G k K t e u v w x y z A B C D E F)))else(bif(a==18)then(G 95 [.sl 4 e,.int .u64 f,.int .u64 g,.int .i64 h,.sl 1 i,.sl 1 l,.int .i64 (IntKind.i64.wrap (m+1)),.int .i64 n,.sl 1 o,.sl 2 p,.sl 4 q,.int .i64 r,.int .i64 s] fun t=>uI .i64 t fun t u=>uI .u64 u fun u v=>uI .u64 v fun v w=>uI .i64 w fun w x=>uL 1 x fun x y=>uL 1 y fun y z=>uI .i64 z fun z A=>uI .i64 A fun A B=>uL 1 B fun B C=>uL 2 C fun C D=>uL 4 D fun D E=>uI .i64 E fun E F=>uI .i64 F fun F H=>unNil H (bif((decide (0≤b))&&(decide (b<(B.length:Int))))then(nthK B (Int.toNat b) fun H=>K [.bool false,.int .i64 0,.int .u64 u,.int .u64 v,.int .i64 w,.sl 1 x,.sl 1 y,.int .i64 z,.int .i64 A,.sl 1 (List.set B (Int.toNat b) (.int .i64 t)),.sl 2 C,.sl 4 D,.int .i64 E,.int .i64 F])else none))else(bif(a==19)then(bif(a==19)then(c71_2 G k K a b c d e f g h i l m n o p q r s)else(c71_0 G k K a b c d e f g h i l m n o p q r s))else(bif(a==20)then(bif(a==20)then(c71_2 G k K a b c d e f g h i l m n o p q r s)else(c71_0 G k K a b c d e f g h i l m n o p q r s))else(bif(a==21)then(bif(a==21)then(c71_2 G k K a b c d e f g h i l m n o p q r s)else(c71_0 G k K a b c d e f g h i l m n o p q r s))else(bif(a==22)then(c71_2 G k K a b c d e f g h i l m n o p q r s)else(c71_0 G k K a b c d e f g h i l m n o p q r s))))))))))))
abbrev g71 {R:Type} (G:ORC R) (k:Nat):LV→(LV→OV R)→OV R:=gF J93 (f71 G k)
theorem s71{R:Type}{G:ORC R}{k:Nat}(hG:Sound Try.prog TAB G):TL 71 (g71 G k):=
 gG J93 (by kernel_rfl) (callF_sound (L:=fun _ _ _=>none) (f:=71) TAB_chk MO hG Try.func71 (sg:=S71) (by kernel_rfl) (by kernel_rfl) (las [] (by kernel_rfl) trivial))
def f89{R:Type}(G:ORC R)(k:Nat)(a b c:Int)(K:LV→OV R):OV R:=
 (G 109 [.int .i64 c] fun d=>uB d fun d e=>unNil e (bif d then(bif((decide (0≤(IntKind.i64.wrap (Int.tdiv c 64))))&&(decide ((IntKind.i64.wrap (Int.tdiv c 64))<2)))then(nthK [.int .u64 a,.int .u64 b] (Int.toNat (IntKind.i64.wrap (Int.tdiv c 64))) fun d=>bif(decide (0≤(Int.tmod c 64)))then(aI .u64 d fun d=>bif((decide (0≤(IntKind.i64.wrap (Int.tdiv c 64))))&&(decide ((IntKind.i64.wrap (Int.tdiv c 64))<2)))then(aI .u64 (bif(0==(Int.toNat (IntKind.i64.wrap (Int.tdiv c 64))))then(.int .u64 (bits .or .u64 d (IntKind.u64.wrap (1*2^(min (Int.toNat (Int.tmod c 64)) IntKind.u64.bits)))))else(.int .u64 a)) fun e=>aI .u64 (bif(1==(Int.toNat (IntKind.i64.wrap (Int.tdiv c 64))))then(.int .u64 (bits .or .u64 d (IntKind.u64.wrap (1*2^(min (Int.toNat (Int.tmod c 64)) IntKind.u64.bits)))))else(.int .u64 b)) fun c=>K [.agg [.int .u64 e,.int .u64 c]])else none)else none)else none)else(K [.agg [.int .u64 a,.int .u64 b]])))
abbrev g89 {R:Type} (G:ORC R) (k:Nat):LV→(LV→OV R)→OV R:=gF J96 (f89 G k)
theorem s89{R:Type}{G:ORC R}{k:Nat}(hG:Sound Try.prog TAB G):TL 89 (g89 G k):=
 gG J96 (by kernel_rfl) (callF_sound (L:=fun _ _ _=>none) (f:=89) TAB_chk MO hG Try.func89 (sg:=S89) (by kernel_rfl) (by kernel_rfl) (las [] (by kernel_rfl) trivial))
def f90{R:Type}(G:ORC R)(k:Nat)(a:Int)(b:LV)(b c d:Int)(e f:LV)(g h:Int)(i l m:LV)(n o:Int)(K:LV→OV R):OV R:=
 (bif(decide (List.length e+1≤1073741824))then(K [.int .u64 b,.int .u64 c,.int .i64 d,.sl 1 (e++[.int .i64 a]),.sl 1 f,.int .i64 g,.int .i64 h,.sl 1 i,.sl 2 l,.sl 4 m,.int .i64 n,.int .i64 o])else none)
abbrev g90 {R:Type} (G:ORC R) (k:Nat):LV→(LV→OV R)→OV R:=gF J97 (f90 G k)
theorem s90{R:Type}{G:ORC R}{k:Nat}(hG:Sound Try.prog TAB G):TL 90 (g90 G k):=
 gG J97 (by kernel_rfl) (callF_sound (L:=fun _ _ _=>none) (f:=90) TAB_chk MO hG Try.func90 (sg:=S90) (by kernel_rfl) (by kernel_rfl) (las [] (by kernel_rfl) trivial))
def f91{R:Type}(G:ORC R)(k:Nat)(a:Bool)(K:LV→OV R):OV R:=
 (bif a then(K [.int .i64 1])else(K [.int .i64 0]))
abbrev g91 {R:Type} (G:ORC R) (k:Nat):LV→(LV→OV R)→OV R:=gF J7 (f91 G k)
theorem s91{R:Type}{G:ORC R}{k:Nat}(hG:Sound Try.prog TAB G):TL 91 (g91 G k):=
 gG J7 (by kernel_rfl) (callF_sound (L:=fun _ _ _=>none) (f:=91) TAB_chk MO hG Try.func91 (sg:=S91) (by kernel_rfl) (by kernel_rfl) (las [] (by kernel_rfl) trivial))
def f92{R:Type}(G:ORC R)(k:Nat)(a b c:Int)(K:LV→OV R):OV R:=
 (G 89 [.agg [.int .u64 a,.int .u64 b],.int .i64 c] fun d=>uA d fun d e=>uI .u64 d fun d f=>uI .u64 f fun f g=>unNil g (unNil e (bif((d==a)&&((f==b)&&true))then(G 109 [.int .i64 c] fun a=>uB a fun a b=>unNil b (K [.bool a]))else(K [.bool false]))))
abbrev g92 {R:Type} (G:ORC R) (k:Nat):LV→(LV→OV R)→OV R:=gF J96 (f92 G k)
theorem s92{R:Type}{G:ORC R}{k:Nat}(hG:Sound Try.prog TAB G):TL 92 (g92 G k):=
 gG J96 (by kernel_rfl) (callF_sound (L:=fun _ _ _=>none) (f:=92) TAB_chk MO hG Try.func92 (sg:=S92) (by kernel_rfl) (by kernel_rfl) (las [] (by kernel_rfl) trivial))
def f93{R:Type}(G:ORC R)(k:Nat)(a b:Int)(K:LV→OV R):OV R:=
 (bif(b !=0)then(K [.bool true,.int .i64 b,.int .i64 0])else(K [.bool false,.int .i64 0,.int .i64 a]))
abbrev g93 {R:Type} (G:ORC R) (k:Nat):LV→(LV→OV R)→OV R:=gF J45 (f93 G k)
theorem s93{R:Type}{G:ORC R}{k:Nat}(hG:Sound Try.prog TAB G):TL 93 (g93 G k):=
 gG J45 (by kernel_rfl) (callF_sound (L:=fun _ _ _=>none) (f:=93) TAB_chk MO hG Try.func93 (sg:=S93) (by kernel_rfl) (by kernel_rfl) (las [] (by kernel_rfl) trivial))
def f94{R:Type}(G:ORC R)(k:Nat)(a:Int)(K:LV→OV R):OV R:=
 (G 110 [.int .i64 0,.int .i64 a] fun a=>uI .i64 a fun a b=>uI .i64 b fun b c=>unNil c (K [.int .i64 a,.int .i64 b]))
abbrev g94 {R:Type} (G:ORC R) (k:Nat):LV→(LV→OV R)→OV R:=gF J14 (f94 G k)
theorem s94{R:Type}{G:ORC R}{k:Nat}(hG:Sound Try.prog TAB G):TL 94 (g94 G k):=
 gG J14 (by kernel_rfl) (callF_sound (L:=fun _ _ _=>none) (f:=94) TAB_chk MO hG Try.func94 (sg:=S94) (by kernel_rfl) (by kernel_rfl) (las [] (by kernel_rfl) trivial))
def f95{R:Type}(G:ORC R)(k:Nat)(a:LV)(a b c:Int)(d e:LV)(f g:Int)(h i l:LV)(m n:Int)(K:LV→OV R):OV R:=
 (bif((decide (0≤(IntKind.i64.wrap ((d.length:Int)-1))))&&(decide ((IntKind.i64.wrap ((d.length:Int)-1))<(d.length:Int))))then(nthK d (Int.toNat (IntKind.i64.wrap ((d.length:Int)-1))) fun o=>aI .i64 o fun o=>bif((decide (0≤(IntKind.i64.wrap ((d.length:Int)-1))))&&(decide ((IntKind.i64.wrap ((d.length:Int)-1))≤(d.length:Int))))then(K [.int .i64 o,.int .u64 a,.int .u64 b,.int .i64 c,.sl 1 (List.take (Int.toNat (IntKind.i64.wrap ((d.length:Int)-1))) d),.sl 1 e,.int .i64 f,.int .i64 g,.sl 1 h,.sl 2 i,.sl 4 l,.int .i64 m,.int .i64 n])else none)else none)
abbrev g95 {R:Type} (G:ORC R) (k:Nat):LV→(LV→OV R)→OV R:=gF J98 (f95 G k)
theorem s95{R:Type}{G:ORC R}{k:Nat}(hG:Sound Try.prog TAB G):TL 95 (g95 G k):=
 gG J98 (by kernel_rfl) (callF_sound (L:=fun _ _ _=>none) (f:=95) TAB_chk MO hG Try.func95 (sg:=S95) (by kernel_rfl) (by kernel_rfl) (las [] (by kernel_rfl) trivial))
def f96{R:Type}(G:ORC R)(k:Nat)(a b c:Int)(c:ByteArray)(d:LV)(e f g:Int)(h i:LV)(l m:Int)(n o p:LV)(q r:Int)(K:LV→OV R):OV R:=
 (bif(a !=22)then(G 95 [.sl 4 d,.int .u64 e,.int .u64 f,.int .i64 g,.sl 1 h,.sl 1 i,.int .i64 l,.int .i64 m,.sl 1 n,.sl 2 o,.sl 4 p,.int .i64 q,.int .i64 r] fun s=>uI .i64 s fun s t=>uI .u64 t fun t u=>uI .u64 u fun u v=>uI .i64 v fun v w=>uL 1 w fun w x=>uL 1 x fun x y=>uI .i64 y fun y z=>uI .i64 z fun z A=>uL 1 A fun A B=>uL 2 B fun B C=>uL 4 C fun C D=>uI .i64 D fun D E=>uI .i64 E fun E F=>unNil F (bif(a==19)then(bif(decide (List.length B+1≤1073741824))then(K [.bool false,.int .i64 0,.int .u64 t,.int .u64 u,.int .i64 v,.sl 1 w,.sl 1 x,.int .i64 y,.int .i64 z,.sl 1 A,.sl 2 (B++[.agg [.str c,.int .i64 s]]),.sl 4 C,.int .i64 D,.int .i64 E])else none)else(bif(a==20)then(G 111 [.int .i64 1,.int .i64 b,.agg [.str c,.int .i64 s],.sl 4 d,.int .u64 t,.int .u64 u,.int .i64 v,.sl 1 w,.sl 1 x,.int .i64 y,.int .i64 z,.sl 1 A,.sl 2 B,.sl 4 C,.int .i64 D,.int .i64 E] fun F=>uI .u64 F fun F H=>uI .u64 H fun H I=>uI .i64 I fun I J=>uL 1 J fun J L=>uL 1 L fun L M=>uI .i64 M fun M N=>uI .i64 N fun N O=>uL 1 O fun O P=>uL 2 P fun P Q=>uL 4 Q fun Q S=>uI .i64 S fun S T=>uI .i64 T fun T U=>unNil U (K [.bool false,.int .i64 0,.int .u64 F,.int .u64 H,.int .i64 I,.sl 1 J,.sl 1 L,.int .i64 M,.int .i64 N,.sl 1 O,.sl 2 P,.sl 4 Q,.int .i64 S,.int .i64 T]))else(bif(a==21)then(bif(decide (s<1))then(K [.bool true,.int .i64 1,.int .u64 t,.int .u64 u,.int .i64 v,.sl 1 w,.sl 1 x,.int .i64 y,.int .i64 z,.sl 1 A,.sl 2 B,.sl 4 C,.int .i64 D,.int .i64 E])else(bif(decide (s>65536))then(K [.bool true,.int .i64 1,.int .u64 t,.int .u64 u,.int .i64 v,.sl 1 w,.sl 1 x,.int .i64 y,.int .i64 z,.sl 1 A,.sl 2 B,.sl 4 C,.int .i64 D,.int .i64 E])else(G 111 [.int .i64 2,.int .i64 b,.agg [.str ⟨#[]⟩,.int .i64 s],.sl 4 d,.int .u64 t,.int .u64 u,.int .i64 v,.sl 1 w,.sl 1 x,.int .i64 y,.int .i64 z,.sl 1 A,.sl 2 B,.sl 4 C,.int .i64 D,.int .i64 E] fun s=>uI .u64 s fun s F=>uI .u64 F fun F H=>uI .i64 H fun H I=>uL 1 I fun I J=>uL 1 J fun J L=>uI .i64 L fun L M=>uI .i64 M fun M N=>uL 1 N fun N O=>uL 2 O fun O P=>uL 4 P fun P Q=>uI .i64 Q fun Q S=>uI .i64 S fun S T=>unNil T (K [.bool false,.int .i64 0,.int .u64 s,.int .u64 F,.int .i64 H,.sl 1 I,.sl 1 J,.int .i64 L,.int .i64 M,.sl 1 N,.sl 2 O,.sl 4 P,.int .i64 Q,.int .i64 S]))))else(G 111 [.int .i64 3,.int .i64 b,.agg [.str ⟨#[]⟩,.int .i64 0],.sl 4 d,.int .u64 t,.int .u64 u,.int .i64 v,.sl 1 w,.sl 1 x,.int .i64 y,.int .i64 z,.sl 1 A,.sl 2 B,.sl 4 C,.int .i64 D,.int .i64 E] fun s=>uI .u64 s fun s t=>uI .u64 t fun t u=>uI .i64 u fun u v=>uL 1 v fun v w=>uL 1 w fun w x=>uI .i64 x fun x y=>uI .i64 y fun y z=>uL 1 z fun z A=>uL 2 A fun A B=>uL 4 B fun B C=>uI .i64 C fun C D=>uI .i64 D fun D E=>unNil E (K [.bool false,.int .i64 0,.int .u64 s,.int .u64 t,.int .i64 u,.sl 1 v,.sl 1 w,.int .i64 x,.int .i64 y,.sl 1 z,.sl 2 A,.sl 4 B,.int .i64 C,.int .i64 D]))))))else(bif(a==19)then(bif(decide (List.length o+1≤1073741824))then(K [.bool false,.int .i64 0,.int .u64 e,.int .u64 f,.int .i64 g,.sl 1 h,.sl 1 i,.int .i64 l,.int .i64 m,.sl 1 n,.sl 2 (o++[.agg [.str c,.int .i64 0]]),.sl 4 p,.int .i64 q,.int .i64 r])else none)else(bif(a==20)then(G 111 [.int .i64 1,.int .i64 b,.agg [.str c,.int .i64 0],.sl 4 d,.int .u64 e,.int .u64 f,.int .i64 g,.sl 1 h,.sl 1 i,.int .i64 l,.int .i64 m,.sl 1 n,.sl 2 o,.sl 4 p,.int .i64 q,.int .i64 r] fun c=>uI .u64 c fun c s=>uI .u64 s fun s t=>uI .i64 t fun t u=>uL 1 u fun u v=>uL 1 v fun v w=>uI .i64 w fun w x=>uI .i64 x fun x y=>uL 1 y fun y z=>uL 2 z fun z A=>uL 4 A fun A B=>uI .i64 B fun B C=>uI .i64 C fun C D=>unNil D (K [.bool false,.int .i64 0,.int .u64 c,.int .u64 s,.int .i64 t,.sl 1 u,.sl 1 v,.int .i64 w,.int .i64 x,.sl 1 y,.sl 2 z,.sl 4 A,.int .i64 B,.int .i64 C]))else(bif(a==21)then(K [.bool true,.int .i64 1,.int .u64 e,.int .u64 f,.int .i64 g,.sl 1 h,.sl 1 i,.int .i64 l,.int .i64 m,.sl 1 n,.sl 2 o,.sl 4 p,.int .i64 q,.int .i64 r])else(G 111 [.int .i64 3,.int .i64 b,.agg [.str ⟨#[]⟩,.int .i64 0],.sl 4 d,.int .u64 e,.int .u64 f,.int .i64 g,.sl 1 h,.sl 1 i,.int .i64 l,.int .i64 m,.sl 1 n,.sl 2 o,.sl 4 p,.int .i64 q,.int .i64 r] fun a=>uI .u64 a fun a b=>uI .u64 b fun b c=>uI .i64 c fun c d=>uL 1 d fun d e=>uL 1 e fun e f=>uI .i64 f fun f g=>uI .i64 g fun g h=>uL 1 h fun h i=>uL 2 i fun i l=>uL 4 l fun l m=>uI .i64 m fun m n=>uI .i64 n fun n o=>unNil o (K [.bool false,.int .i64 0,.int .u64 a,.int .u64 b,.int .i64 c,.sl 1 d,.sl 1 e,.int .i64 f,.int .i64 g,.sl 1 h,.sl 2 i,.sl 4 l,.int .i64 m,.int .i64 n]))))))
abbrev g96 {R:Type} (G:ORC R) (k:Nat):LV→(LV→OV R)→OV R:=gF J93 (f96 G k)
theorem s96{R:Type}{G:ORC R}{k:Nat}(hG:Sound Try.prog TAB G):TL 96 (g96 G k):=
 gG J93 (by kernel_rfl) (callF_sound (L:=fun _ _ _=>none) (f:=96) TAB_chk MO hG Try.func96 (sg:=S96) (by kernel_rfl) (by kernel_rfl) (las [] (by kernel_rfl) trivial))
def f97{R:Type}(G:ORC R)(k:Nat)(a b c:Int)(d:ByteArray)(d:LV)(e f g:Int)(h i:LV)(l m:Int)(n o p:LV)(q r:Int)(K:LV→OV R):OV R:=
 (bif(a==23)then(K [.int .u64 e,.int .u64 f,.int .i64 g,.sl 1 h,.sl 1 i,.int .i64 b,.int .i64 m,.sl 1 n,.sl 2 o,.sl 4 p,.int .i64 q,.int .i64 r])else(bif(a==24)then(G 95 [.sl 4 d,.int .u64 e,.int .u64 f,.int .i64 g,.sl 1 h,.sl 1 i,.int .i64 l,.int .i64 m,.sl 1 n,.sl 2 o,.sl 4 p,.int .i64 q,.int .i64 r] fun d=>uI .i64 d fun d s=>uI .u64 s fun s t=>uI .u64 t fun t u=>uI .i64 u fun u v=>uL 1 v fun v w=>uL 1 w fun w x=>uI .i64 x fun x y=>uI .i64 y fun y z=>uL 1 z fun z A=>uL 2 A fun A B=>uL 4 B fun B C=>uI .i64 C fun C D=>uI .i64 D fun D E=>unNil E (bif(d==0)then(K [.int .u64 s,.int .u64 t,.int .i64 u,.sl 1 v,.sl 1 w,.int .i64 b,.int .i64 y,.sl 1 z,.sl 2 A,.sl 4 B,.int .i64 C,.int .i64 D])else(K [.int .u64 s,.int .u64 t,.int .i64 u,.sl 1 v,.sl 1 w,.int .i64 x,.int .i64 y,.sl 1 z,.sl 2 A,.sl 4 B,.int .i64 C,.int .i64 D])))else(bif(a==25)then(bif(decide (List.length i+1≤1073741824))then(K [.int .u64 e,.int .u64 f,.int .i64 g,.sl 1 h,.sl 1 (i++[.int .i64 c]),.int .i64 l,.int .i64 m,.sl 1 n,.sl 2 o,.sl 4 p,.int .i64 q,.int .i64 r])else none)else(bif((decide (0≤(IntKind.i64.wrap ((i.length:Int)-1))))&&(decide ((IntKind.i64.wrap ((i.length:Int)-1))<(i.length:Int))))then(nthK i (Int.toNat (IntKind.i64.wrap ((i.length:Int)-1))) fun a=>aI .i64 a fun a=>bif((decide (0≤(IntKind.i64.wrap ((i.length:Int)-1))))&&(decide ((IntKind.i64.wrap ((i.length:Int)-1))<(i.length:Int))))then(nthK i (Int.toNat (IntKind.i64.wrap ((i.length:Int)-1))) fun c=>bif((decide (0≤(IntKind.i64.wrap ((i.length:Int)-1))))&&(decide ((IntKind.i64.wrap ((i.length:Int)-1))<((List.length (List.set i (Int.toNat (IntKind.i64.wrap ((i.length:Int)-1))) (.int .i64 (IntKind.i64.wrap (a-1)))):Nat):Int))))then(nthK (List.set i (Int.toNat (IntKind.i64.wrap ((i.length:Int)-1))) (.int .i64 (IntKind.i64.wrap (a-1)))) (Int.toNat (IntKind.i64.wrap ((i.length:Int)-1))) fun c=>aI .i64 c fun c=>bif(decide (c>0))then(K [.int .u64 e,.int .u64 f,.int .i64 g,.sl 1 h,.sl 1 (List.set i (Int.toNat (IntKind.i64.wrap ((i.length:Int)-1))) (.int .i64 (IntKind.i64.wrap (a-1)))),.int .i64 (IntKind.i64.wrap (b+1)),.int .i64 m,.sl 1 n,.sl 2 o,.sl 4 p,.int .i64 q,.int .i64 r])else(bif((decide (0≤(IntKind.i64.wrap ((i.length:Int)-1))))&&(decide ((IntKind.i64.wrap ((i.length:Int)-1))≤((List.length (List.set i (Int.toNat (IntKind.i64.wrap ((i.length:Int)-1))) (.int .i64 (IntKind.i64.wrap (a-1)))):Nat):Int))))then(K [.int .u64 e,.int .u64 f,.int .i64 g,.sl 1 h,.sl 1 (List.take (Int.toNat (IntKind.i64.wrap ((i.length:Int)-1))) (List.set i (Int.toNat (IntKind.i64.wrap ((i.length:Int)-1))) (.int .i64 (IntKind.i64.wrap (a-1))))),.int .i64 l,.int .i64 m,.sl 1 n,.sl 2 o,.sl 4 p,.int .i64 q,.int .i64 r])else none))else none)else none)else none))))
abbrev g97 {R:Type} (G:ORC R) (k:Nat):LV→(LV→OV R)→OV R:=gF J93 (f97 G k)
theorem s97{R:Type}{G:ORC R}{k:Nat}(hG:Sound Try.prog TAB G):TL 97 (g97 G k):=
 gG J93 (by kernel_rfl) (callF_sound (L:=fun _ _ _=>none) (f:=97) TAB_chk MO hG Try.func97 (sg:=S97) (by kernel_rfl) (by kernel_rfl) (las [] (by kernel_rfl) trivial))
def f98{R:Type}(G:ORC R)(k:Nat)(a b c:Int)(K:LV→OV R):OV R:=
 (bif(a==7)then(G 112 [.int .i64 b,.int .i64 c] fun d=>uI .i64 d fun d e=>uI .i64 e fun e f=>unNil f (G 93 [.int .i64 d,.int .i64 e] fun d=>uB d fun d e=>uI .i64 e fun e f=>uI .i64 f fun f g=>unNil g (bif d then(K [.bool true,.int .i64 e,.int .i64 0])else(K [.bool false,.int .i64 0,.int .i64 f]))))else(bif(a==8)then(G 113 [.int .i64 b,.int .i64 c] fun d=>uI .i64 d fun d e=>uI .i64 e fun e f=>unNil f (G 93 [.int .i64 d,.int .i64 e] fun d=>uB d fun d e=>uI .i64 e fun e f=>uI .i64 f fun f g=>unNil g (bif d then(K [.bool true,.int .i64 e,.int .i64 0])else(K [.bool false,.int .i64 0,.int .i64 f]))))else(bif(a==9)then(G 114 [.int .i64 b,.int .i64 c] fun d=>uI .i64 d fun d e=>uI .i64 e fun e f=>unNil f (G 93 [.int .i64 d,.int .i64 e] fun d=>uB d fun d e=>uI .i64 e fun e f=>uI .i64 f fun f g=>unNil g (bif d then(K [.bool true,.int .i64 e,.int .i64 0])else(K [.bool false,.int .i64 0,.int .i64 f]))))else(bif(a==10)then(G 115 [.int .i64 b,.int .i64 c] fun d=>uI .i64 d fun d e=>uI .i64 e fun e f=>unNil f (G 93 [.int .i64 d,.int .i64 e] fun d=>uB d fun d e=>uI .i64 e fun e f=>uI .i64 f fun f g=>unNil g (bif d then(K [.bool true,.int .i64 e,.int .i64 0])else(K [.bool false,.int .i64 0,.int .i64 f]))))else(bif(a==11)then(G 110 [.int .i64 b,.int .i64 c] fun d=>uI .i64 d fun d e=>uI .i64 e fun e f=>unNil f (G 93 [.int .i64 d,.int .i64 e] fun d=>uB d fun d e=>uI .i64 e fun e f=>uI .i64 f fun f g=>unNil g (bif d then(K [.bool true,.int .i64 e,.int .i64 0])else(K [.bool false,.int .i64 0,.int .i64 f]))))else(bif(a==12)then(G 91 [.bool (decide (b<c))] fun d=>uI .i64 d fun d e=>unNil e (K [.bool false,.int .i64 0,.int .i64 d]))else(bif(a==13)then(G 91 [.bool (decide (b≤c))] fun d=>uI .i64 d fun d e=>unNil e (K [.bool false,.int .i64 0,.int .i64 d]))else(bif(a==14)then(G 91 [.bool (decide (b>c))] fun d=>uI .i64 d fun d e=>unNil e (K [.bool false,.int .i64 0,.int .i64 d]))else(bif(a==15)then(G 91 [.bool (decide (b≥c))] fun d=>uI .i64 d fun d e=>unNil e (K [.bool false,.int .i64 0,.int .i64 d]))else(bif(a==16)then(G 91 [.bool (b==c)] fun a=>uI .i64 a fun a d=>unNil d (K [.bool false,.int .i64 0,.int .i64 a]))else(G 91 [.bool (b !=c)] fun a=>uI .i64 a fun a b=>unNil b (K [.bool false,.int .i64 0,.int .i64 a]))))))))))))
abbrev g98 {R:Type} (G:ORC R) (k:Nat):LV→(LV→OV R)→OV R:=gF J99 (f98 G k)
theorem s98{R:Type}{G:ORC R}{k:Nat}(hG:Sound Try.prog TAB G):TL 98 (g98 G k):=
 gG J99 (by kernel_rfl) (callF_sound (L:=fun _ _ _=>none) (f:=98) TAB_chk MO hG Try.func98 (sg:=S98) (by kernel_rfl) (by kernel_rfl) (las [] (by kernel_rfl) trivial))
def f109{R:Type}(G:ORC R)(k:Nat)(a:Int)(K:LV→OV R):OV R:=
 (bif(decide (a≥0))then(K [.bool (decide (a<128))])else(K [.bool false]))
abbrev g109 {R:Type} (G:ORC R) (k:Nat):LV→(LV→OV R)→OV R:=gF J14 (f109 G k)
theorem s109{R:Type}{G:ORC R}{k:Nat}(hG:Sound Try.prog TAB G):TL 109 (g109 G k):=
 gG J14 (by kernel_rfl) (callF_sound (L:=fun _ _ _=>none) (f:=109) TAB_chk MO hG Try.func109 (sg:=S109) (by kernel_rfl) (by kernel_rfl) (las [] (by kernel_rfl) trivial))
def f110{R:Type}(G:ORC R)(k:Nat)(a b:Int)(K:LV→OV R):OV R:=
 (bif(decide ((bits .and .i64 (bits .xor .i64 a b) (bits .xor .i64 a (IntKind.i64.wrap (a-b))))<0))then(K [.int .i64 0,.int .i64 2])else(K [.int .i64 (IntKind.i64.wrap (a-b)),.int .i64 0]))
abbrev g110 {R:Type} (G:ORC R) (k:Nat):LV→(LV→OV R)→OV R:=gF J45 (f110 G k)
theorem s110{R:Type}{G:ORC R}{k:Nat}(hG:Sound Try.prog TAB G):TL 110 (g110 G k):=
 gG J45 (by kernel_rfl) (callF_sound (L:=fun _ _ _=>none) (f:=110) TAB_chk MO hG Try.func110 (sg:=S110) (by kernel_rfl) (by kernel_rfl) (las [] (by kernel_rfl) trivial))
def f111{R:Type}(G:ORC R)(k:Nat)(a b:Int)(c:ByteArray)(d:Int)(e:LV)(e f g:Int)(h i:LV)(l m:Int)(n o p:LV)(q r:Int)(K:LV→OV R):OV R:=
 (bif(decide (List.length p+1≤1073741824))then(K [.int .u64 e,.int .u64 f,.int .i64 g,.sl 1 h,.sl 1 i,.int .i64 l,.int .i64 m,.sl 1 n,.sl 2 o,.sl 4 (p++[.agg [.int .i64 a,.int .i64 b,.str c,.int .i64 d]]),.int .i64 q,.int .i64 r])else none)
abbrev g111 {R:Type} (G:ORC R) (k:Nat):LV→(LV→OV R)→OV R:=gF J103 (f111 G k)
theorem s111{R:Type}{G:ORC R}{k:Nat}(hG:Sound Try.prog TAB G):TL 111 (g111 G k):=
 gG J103 (by kernel_rfl) (callF_sound (L:=fun _ _ _=>none) (f:=111) TAB_chk MO hG Try.func111 (sg:=S111) (by kernel_rfl) (by kernel_rfl) (las [] (by kernel_rfl) trivial))
def f112{R:Type}(G:ORC R)(k:Nat)(a b:Int)(K:LV→OV R):OV R:=
 (bif(a==0)then(K [.int .i64 0,.int .i64 0])else(bif(b==0)then(K [.int .i64 0,.int .i64 0])else(bif(a==(-1))then(bif(b==(-9223372036854775808))then(K [.int .i64 0,.int .i64 2])else(bif(b==(-1))then(bif(a==(-9223372036854775808))then(K [.int .i64 0,.int .i64 2])else(bif(!(b==0))then(bif((IntKind.i64.wrap (Int.tdiv (IntKind.i64.wrap (a*b)) b)) !=a)then(K [.int .i64 0,.int .i64 2])else(K [.int .i64 (IntKind.i64.wrap (a*b)),.int .i64 0]))else none))else(bif(!(b==0))then(bif((IntKind.i64.wrap (Int.tdiv (IntKind.i64.wrap (a*b)) b)) !=a)then(K [.int .i64 0,.int .i64 2])else(K [.int .i64 (IntKind.i64.wrap (a*b)),.int .i64 0]))else none)))else(bif(b==(-1))then(bif(a==(-9223372036854775808))then(K [.int .i64 0,.int .i64 2])else(bif(!(b==0))then(bif((IntKind.i64.wrap (Int.tdiv (IntKind.i64.wrap (a*b)) b)) !=a)then(K [.int .i64 0,.int .i64 2])else(K [.int .i64 (IntKind.i64.wrap (a*b)),.int .i64 0]))else none))else(bif(!(b==0))then(bif((IntKind.i64.wrap (Int.tdiv (IntKind.i64.wrap (a*b)) b)) !=a)then(K [.int .i64 0,.int .i64 2])else(K [.int .i64 (IntKind.i64.wrap (a*b)),.int .i64 0]))else none)))))
abbrev g112 {R:Type} (G:ORC R) (k:Nat):LV→(LV→OV R)→OV R:=gF J45 (f112 G k)
theorem s112{R:Type}{G:ORC R}{k:Nat}(hG:Sound Try.prog TAB G):TL 112 (g112 G k):=
 gG J45 (by kernel_rfl) (callF_sound (L:=fun _ _ _=>none) (f:=112) TAB_chk MO hG Try.func112 (sg:=S112) (by kernel_rfl) (by kernel_rfl) (las [] (by kernel_rfl) trivial))
def f113{R:Type}(G:ORC R)(k:Nat)(a b:Int)(K:LV→OV R):OV R:=
 (bif(b==0)then(K [.int .i64 0,.int .i64 3])else(bif(b==(-1))then(G 94 [.int .i64 a] fun c=>uI .i64 c fun c d=>uI .i64 d fun d e=>unNil e (K [.int .i64 c,.int .i64 d]))else(bif(!(b==0))then(K [.int .i64 (IntKind.i64.wrap (Int.tdiv a b)),.int .i64 0])else none)))
abbrev g113 {R:Type} (G:ORC R) (k:Nat):LV→(LV→OV R)→OV R:=gF J45 (f113 G k)
theorem s113{R:Type}{G:ORC R}{k:Nat}(hG:Sound Try.prog TAB G):TL 113 (g113 G k):=
 gG J45 (by kernel_rfl) (callF_sound (L:=fun _ _ _=>none) (f:=113) TAB_chk MO hG Try.func113 (sg:=S113) (by kernel_rfl) (by kernel_rfl) (las [] (by kernel_rfl) trivial))
def f114{R:Type}(G:ORC R)(k:Nat)(a b:Int)(K:LV→OV R):OV R:=
 (bif(b==0)then(K [.int .i64 0,.int .i64 3])else(bif(b==(-1))then(K [.int .i64 0,.int .i64 0])else(bif(!(b==0))then(K [.int .i64 (Int.tmod a b),.int .i64 0])else none)))
abbrev g114 {R:Type} (G:ORC R) (k:Nat):LV→(LV→OV R)→OV R:=gF J45 (f114 G k)
theorem s114{R:Type}{G:ORC R}{k:Nat}(hG:Sound Try.prog TAB G):TL 114 (g114 G k):=
 gG J45 (by kernel_rfl) (callF_sound (L:=fun _ _ _=>none) (f:=114) TAB_chk MO hG Try.func114 (sg:=S114) (by kernel_rfl) (by kernel_rfl) (las [] (by kernel_rfl) trivial))
def f115{R:Type}(G:ORC R)(k:Nat)(a b:Int)(K:LV→OV R):OV R:=
 (bif(decide ((bits .and .i64 (bits .xor .i64 a (IntKind.i64.wrap (a+b))) (bits .xor .i64 b (IntKind.i64.wrap (a+b))))<0))then(K [.int .i64 0,.int .i64 2])else(K [.int .i64 (IntKind.i64.wrap (a+b)),.int .i64 0]))
abbrev g115 {R:Type} (G:ORC R) (k:Nat):LV→(LV→OV R)→OV R:=gF J45 (f115 G k)
theorem s115{R:Type}{G:ORC R}{k:Nat}(hG:Sound Try.prog TAB G):TL 115 (g115 G k):=
 gG J45 (by kernel_rfl) (callF_sound (L:=fun _ _ _=>none) (f:=115) TAB_chk MO hG Try.func115 (sg:=S115) (by kernel_rfl) (by kernel_rfl) (las [] (by kernel_rfl) trivial))
def P131098_0h:Pat:={tmps:=unds [.var (.sl 1) (.own true),.stat (.one (.fn 64 [.ptr 0 0,.ptr 2 0]) .pt),pU,pU,pU,pI,pI] 35 [],boxes:=nons [some B23,some B24,some B18] 42 []}
def P131098_0x:Pat:={tmps:=unds [.var (.sl 1) (.own true),pU,pU,pU,pU,pI] 36 [],boxes:=nons [some B23,some B24,some B18] 42 []}
def b131098_0{R:Type}(G:ORC R)(k:Nat)(X:Cu R J106)(Ko:Cu R J105)(a:LV)(b c:Int)(d:ByteArray)(e f:Int)(g h i l m n o p q:LV)(r:Int)(s t:V)(u:LV)(v w x y z A:Int)(B:ByteArray):OV R:=
 (bif(decide (c<(a.length:Int)))then(bif((decide (0≤c))&&(decide (c<(a.length:Int))))then(nthK a (Int.toNat c) fun C=>aI .i64 C fun C=>G 64 [.int .i64 C,.str d,.int .i64 e,.int .i64 f,.sl 1 g,.sl 1 h,.sl 1 i,.sl 7 l,.sl 6 m,.sl 1 n,.sl 1 o,.sl 1 p,.sl 1 q,.int .i64 r,s,t,.sl 2 u,.int .i64 v,.int .i64 w,.int .i64 x,.int .i64 y,.int .i64 z,.int .i64 A,.str B] fun D=>uB D fun D E=>uS E fun E F=>uI .i64 F fun F H=>uI .i64 H fun H I=>uI .i64 I fun I J=>uI .i64 J fun J L=>uI .i64 L fun L M=>uI .i64 M fun M N=>uI .i64 N fun N O=>uI .i64 O fun O P=>uI .i64 P fun P Q=>uS Q fun Q S=>unNil S (bif(!D)then(bif((decide (0≤b))&&(decide (b<(a.length:Int))))then(nthK a (Int.toNat b) fun D=>X (List.set a (Int.toNat b) (.int .i64 C)) (IntKind.i64.wrap (b+1)) (IntKind.i64.wrap (c+1)) E F H g h i l m n o p q I s t u J L M N O P Q)else none)else(X a b (IntKind.i64.wrap (c+1)) E F H g h i l m n o p q I s t u J L M N O P Q)))else none)else(Ko a b d e f g h i l m n o p q r s t u v w x y z A B))
def l131098_0g{R:Type}(G:ORC R)(k:Nat)(Ko:Cu R J105)(j:Nat):Cu R J106:=lup J106 (fun X=>b131098_0 G k X Ko) j
def l131098_0{R:Type}(G:ORC R)(k:Nat)(a:LV)(b c:Int)(d:ByteArray)(e f:Int)(g h i l m n o p q:LV)(r:Int)(s t:V)(u:LV)(v w x y z A:Int)(B:ByteArray)(Ko:Cu R J105):OV R:=l131098_0g G k Ko k a b c d e f g h i l m n o p q r s t u v w x y z A B
def L131098{R:Type}(G:ORC R)(k:Nat):Nat→St→(Ex→St→OV R)→OV R
 |0,S,K=>P131098_0h.mat S fun vs=>uc J106 (l131098_0g G k (koX J105 P131098_0x K) k) vs none
 |_,_,_=>none
def f131098{R:Type}(G:ORC R)(k:Nat)(a:LV)(b:ByteArray)(c d:Int)(e f g h i l m n o:LV)(p:Int)(q r:V)(s:LV)(t u v w x y:Int)(z:ByteArray)(K:LV→OV R):OV R:=
 (G 196659 [.sl 1 a,.str b,.int .i64 c,.int .i64 d,.sl 1 e,.sl 1 f,.sl 1 g,.sl 7 h,.sl 6 i,.sl 1 l,.sl 1 m,.sl 1 n,.sl 1 o,.int .i64 p,q,r,.sl 2 s,.int .i64 t,.int .i64 u,.int .i64 v,.int .i64 w,.int .i64 x,.int .i64 y,.str z] fun b=>uI .i64 b fun b c=>uS c fun c d=>uI .i64 d fun d p=>uI .i64 p fun p t=>uI .i64 t fun t u=>uI .i64 u fun u v=>uI .i64 v fun v w=>uI .i64 w fun w x=>uI .i64 x fun x y=>uI .i64 y fun y z=>uI .i64 z fun z A=>uS A fun A B=>unNil B (bif(b==(-1))then(K [.sl 1 a,.str c,.int .i64 d,.int .i64 p,.int .i64 t,.int .i64 u,.int .i64 v,.int .i64 w,.int .i64 x,.int .i64 y,.int .i64 z,.str A])else(l131098_0 G k a b (IntKind.i64.wrap (b+1)) c d p e f g h i l m n o t q r s u v w x y z A (fun a b c d e f g h i f g h i f g h i f l h i f m n o=>bif((decide (0≤b))&&(decide (b<(a.length:Int))))then(bif(decide ((Int.toNat b)≤(List.length a)))then(bif((decide (0≤b))&&(decide (b≤((List.length ((List.take (Int.toNat b) a)++(List.replicate ((List.length a)-(Int.toNat b)) (V.int .i64 0))):Nat):Int))))then(K [.sl 1 (List.take (Int.toNat b) ((List.take (Int.toNat b) a)++(List.replicate ((List.length a)-(Int.toNat b)) (V.int .i64 0)))),.str c,.int .i64 d,.int .i64 e,.int .i64 g,.int .i64 l,.int .i64 h,.int .i64 i,.int .i64 f,.int .i64 m,.int .i64 n,.str o])else none)else none)else none))))
abbrev g131098 {R:Type} (G:ORC R) (k:Nat):LV→(LV→OV R)→OV R:=gF J107 (f131098 G k)
theorem s131098{R:Type}{G:ORC R}{k:Nat}(hG:Sound Try.prog TAB G):TL 131098 (g131098 G k):=
 gG J107 (by kernel_rfl) (callF_sound (L:=L131098 G k) (f:=131098) TAB_chk MO hG Try.func26 (sg:=S131098) (by kernel_rfl) (by kernel_rfl) (las [0] (by kernel_rfl) ⟨loopIs J106 k (fun K X=>b131098_0 G k X (koX J105 P131098_0x K)) P131098_0h P131098_0x default (by kernel_rfl) (by kernel_rfl) (by kernel_rfl) (fun K X=>by kernel_rfl) (fun S K=>by kernel_rfl),trivial⟩))
def P196659_0h:Pat:={tmps:=unds [pL,.stat (.one (.fn 64 [.ptr 0 0,.ptr 2 0]) .pt)] 5 (unds [pI,pI] 10 []),boxes:=nons [some B23,some B24,some B18] 19 []}
def P196659_0x:Pat:={tmps:=unds [] 19 [],boxes:=nons [some B23,some B24,some B18] 19 []}
def P196659_0r:Pat:={tmps:=unds [pU,pU,pU,pU,pI] 14 [],boxes:=nons [some B23,some B24,some B18] 19 []}
def b196659_0{R:Type}(G:ORC R)(k:Nat)(X:Cu R J106)(Ko:Cu R J112)(Kr:Cu R J87)(a:LV)(b c:Int)(d:ByteArray)(e f:Int)(g h i l m n o p q:LV)(r:Int)(s t:V)(u:LV)(v w x y z A:Int)(B:ByteArray):OV R:=
 (bif(decide (c<b))then(bif((decide (0≤c))&&(decide (c<(a.length:Int))))then(nthK a (Int.toNat c) fun C=>aI .i64 C fun C=>G 64 [.int .i64 C,.str d,.int .i64 e,.int .i64 f,.sl 1 g,.sl 1 h,.sl 1 i,.sl 7 l,.sl 6 m,.sl 1 n,.sl 1 o,.sl 1 p,.sl 1 q,.int .i64 r,s,t,.sl 2 u,.int .i64 v,.int .i64 w,.int .i64 x,.int .i64 y,.int .i64 z,.int .i64 A,.str B] fun C=>uB C fun C D=>uS D fun D E=>uI .i64 E fun E F=>uI .i64 F fun F H=>uI .i64 H fun H I=>uI .i64 I fun I J=>uI .i64 J fun J L=>uI .i64 L fun L M=>uI .i64 M fun M N=>uI .i64 N fun N O=>uI .i64 O fun O P=>uS P fun P Q=>unNil Q (bif C then(Kr c D E F g h i l m n o p q H s t u I J L M N O P)else(X a b (IntKind.i64.wrap (c+1)) D E F g h i l m n o p q H s t u I J L M N O P)))else none)else(Ko d e f g h i l m n o p q r s t u v w x y z A B))
def l196659_0g{R:Type}(G:ORC R)(k:Nat)(Ko:Cu R J112)(Kr:Cu R J87)(j:Nat):Cu R J106:=lup J106 (fun X=>b196659_0 G k X Ko Kr) j
def l196659_0{R:Type}(G:ORC R)(k:Nat)(a:LV)(b c:Int)(d:ByteArray)(e f:Int)(g h i l m n o p q:LV)(r:Int)(s t:V)(u:LV)(v w x y z A:Int)(B:ByteArray)(Ko:Cu R J112)(Kr:Cu R J87):OV R:=l196659_0g G k Ko Kr k a b c d e f g h i l m n o p q r s t u v w x y z A B
def L196659{R:Type}(G:ORC R)(k:Nat):Nat→St→(Ex→St→OV R)→OV R
 |0,S,K=>P196659_0h.mat S fun vs=>uc J106 (l196659_0g G k (koX J112 P196659_0x K) (koR J87 P196659_0r K) k) vs none
 |_,_,_=>none
def f196659{R:Type}(G:ORC R)(k:Nat)(a:LV)(b:ByteArray)(c d:Int)(e f g h i l m n o:LV)(p:Int)(q r:V)(s:LV)(t u v w x y:Int)(z:ByteArray)(K:LV→OV R):OV R:=
 (l196659_0 G k a (a.length:Int) 0 b c d e f g h i l m n o p q r s t u v w x y z (fun a b c d e f g d e f g d e f g d h f g d i l m=>K [.int .i64 (-1),.str a,.int .i64 b,.int .i64 c,.int .i64 e,.int .i64 h,.int .i64 f,.int .i64 g,.int .i64 d,.int .i64 i,.int .i64 l,.str m]) (fun a b c d e f g h e f g h e f g h e i g h e l m n=>K [.int .i64 a,.str b,.int .i64 c,.int .i64 d,.int .i64 f,.int .i64 i,.int .i64 g,.int .i64 h,.int .i64 e,.int .i64 l,.int .i64 m,.str n]))
abbrev g196659 {R:Type} (G:ORC R) (k:Nat):LV→(LV→OV R)→OV R:=gF J107 (f196659 G k)
theorem s196659{R:Type}{G:ORC R}{k:Nat}(hG:Sound Try.prog TAB G):TL 196659 (g196659 G k):=
 gG J107 (by kernel_rfl) (callF_sound (L:=L196659 G k) (f:=196659) TAB_chk MO hG Try.func51 (sg:=S196659) (by kernel_rfl) (by kernel_rfl) (las [0] (by kernel_rfl) ⟨loopIs J106 k (fun K X=>b196659_0 G k X (koX J112 P196659_0x K) (koR J87 P196659_0r K)) P196659_0h P196659_0x P196659_0r (by kernel_rfl) (by kernel_rfl) (by kernel_rfl) (fun K X=>by kernel_rfl) (fun S K=>by kernel_rfl),trivial⟩))
def pgB(k:Nat)(G:ORC (List V)):ORC (List V):=fun f args K=>match f with
    |3=>g3 G k args K
    |6=>g6 G k args K
    |7=>g7 G k args K
    |8=>g8 G k args K
    |11=>g11 G k args K
    |16=>g16 G k args K
    |17=>g17 G k args K
    |18=>g18 G k args K
    |19=>g19 G k args K
    |20=>g20 G k args K
    |21=>g21 G k args K
    |34=>g34 G k args K
    |35=>g35 G k args K
    |36=>g36 G k args K
    |37=>g37 G k args K
    |38=>g38 G k args K
    |39=>g39 G k args K
    |41=>g41 G k args K
    |50=>g50 G k args K
    |61=>g61 G k args K
    |62=>g62 G k args K
    |63=>g63 G k args K
    |64=>g64 G k args K
    |65=>g65 G k args K
    |66=>g66 G k args K
    |69=>g69 G k args K
    |71=>g71 G k args K
    |89=>g89 G k args K
    |90=>g90 G k args K
    |91=>g91 G k args K
    |92=>g92 G k args K
    |93=>g93 G k args K
    |94=>g94 G k args K
    |95=>g95 G k args K
    |96=>g96 G k args K
    |97=>g97 G k args K
    |98=>g98 G k args K
    |109=>g109 G k args K
    |110=>g110 G k args K
    |111=>g111 G k args K
    |112=>g112 G k args K
    |113=>g113 G k args K
    |114=>g114 G k args K
    |115=>g115 G k args K
    |131098=>g131098 G k args K
    |196659=>g196659 G k args K
    |_=>none
def pg(k:Nat):Nat→ORC (List V)
 |0=>fun _ _ _=>none
 |j+1=>fun f args K=>(pgB k (pg k j) f args (@some (List V))).bind K
theorem pg_sound(k:Nat):∀j,Sound Try.prog TAB (pg k j)
 |0=>fun f args K r h=>by cases h
 |j+1=>fun f args K r h=>by
  have ih:=pg_sound k j
  have h:(pgB k (pg k j) f args (@some (List V))).bind K=some r:=h
  cases hb:pgB k (pg k j) f args (@some (List V))with
  |none=>rw[hb]at h;cases h
  |some o=>
  rw[hb]at h
  have key:∃o',CallOK Try.prog TAB.env f args o'∧some o'=some o:=by
   unfold pgB at hb
   split at hb
   ·exact s3 ih args (@some (List V)) o hb
   ·exact s6 ih args (@some (List V)) o hb
   ·exact s7 ih args (@some (List V)) o hb
   ·exact s8 ih args (@some (List V)) o hb
   ·exact s11 ih args (@some (List V)) o hb
   ·exact s16 ih args (@some (List V)) o hb
   ·exact s17 ih args (@some (List V)) o hb
   ·exact s18 ih args (@some (List V)) o hb
   ·exact s19 ih args (@some (List V)) o hb
   ·exact s20 ih args (@some (List V)) o hb
   ·exact s21 ih args (@some (List V)) o hb
   ·exact s34 ih args (@some (List V)) o hb
   ·exact s35 ih args (@some (List V)) o hb
   ·exact s36 ih args (@some (List V)) o hb
   ·exact s37 ih args (@some (List V)) o hb
   ·exact s38 ih args (@some (List V)) o hb
   ·exact s39 ih args (@some (List V)) o hb
   ·exact s41 ih args (@some (List V)) o hb
   ·exact s50 ih args (@some (List V)) o hb
   ·exact s61 ih args (@some (List V)) o hb
   ·exact s62 ih args (@some (List V)) o hb
   ·exact s63 ih args (@some (List V)) o hb
   ·exact s64 ih args (@some (List V)) o hb
   ·exact s65 ih args (@some (List V)) o hb
   ·exact s66 ih args (@some (List V)) o hb
   ·exact s69 ih args (@some (List V)) o hb
   ·exact s71 ih args (@some (List V)) o hb
   ·exact s89 ih args (@some (List V)) o hb
   ·exact s90 ih args (@some (List V)) o hb
   ·exact s91 ih args (@some (List V)) o hb
   ·exact s92 ih args (@some (List V)) o hb
   ·exact s93 ih args (@some (List V)) o hb
   ·exact s94 ih args (@some (List V)) o hb
   ·exact s95 ih args (@some (List V)) o hb
   ·exact s96 ih args (@some (List V)) o hb
   ·exact s97 ih args (@some (List V)) o hb
   ·exact s98 ih args (@some (List V)) o hb
   ·exact s109 ih args (@some (List V)) o hb
   ·exact s110 ih args (@some (List V)) o hb
   ·exact s111 ih args (@some (List V)) o hb
   ·exact s112 ih args (@some (List V)) o hb
   ·exact s113 ih args (@some (List V)) o hb
   ·exact s114 ih args (@some (List V)) o hb
   ·exact s115 ih args (@some (List V)) o hb
   ·exact s131098 ih args (@some (List V)) o hb
   ·exact s196659 ih args (@some (List V)) o hb
   ·cases hb
  obtain⟨o',h1,h2⟩:=key
  cases h2
  exact⟨o,h1,h⟩
theorem pg_U{k j:Nat}{f:FuncId}{args:List V}{Q:List V→Prop}(h:W Q (@some (List V)) (pgB k (pg k j) f args (@some (List V)))):∃o,Q o∧∀K,pg k (j+1) f args K=K o:=by
 obtain⟨o,q,e⟩:=h
 exact⟨o,q,fun K=>by show(pgB k (pg k j) f args (@some (List V))).bind K=_;rw[e];rfl⟩
theorem pg_W{k j:Nat}{f:FuncId}{args:List V}{Q:List V→Prop}{K:List V→Option (List V)}(h:W Q (@some (List V)) (pgB k (pg k j) f args (@some (List V)))):W Q K (pg k (j+1) f args K):=by
 obtain⟨o,q,e⟩:=pg_U h
 exact⟨o,q,e K⟩
end Go.Proofs.Ytfkofdjpdbfjgaa.Vm
