/- Functions of the program, told by the machine of values, and what they answer: a part. -/
import Derived.Test.YtnimfaaefdlepaaGreatTeV3
import Derived.Test.YtnimfaaefdlepaaGreatProg
import Derived.KernelRfl
open Go Go.VM
set_option linter.unusedVariables false
set_option maxRecDepth 100000
namespace Go.Proofs.YtnimfaaefdlepaaGreat.Vm
def T2:TyD:={under:=.int .i64,size:=1,bytes:=8,zv:=[((.int .i64 (0:Int)),.pr)],leafs:=[.int .i64],deep:=false}
def T3:TyD:={under:=.int .i64,size:=1,bytes:=8,zv:=[((.int .i64 (0:Int)),.pr)],leafs:=[.int .i64],deep:=false}
def T4:TyD:={under:=.bool,size:=1,bytes:=1,zv:=[((.bool false),.pr)],leafs:=[.bool],deep:=false}
def T5:TyD:={under:=.int .u8,size:=1,bytes:=1,zv:=[((.int .u8 (0:Int)),.pr)],leafs:=[.int .u8],deep:=false}
def T6:TyD:={under:=.int .u8,size:=1,bytes:=1,zv:=[((.int .u8 (0:Int)),.pr)],leafs:=[.int .u8],deep:=false}
def T7:TyD:={under:=.struct [(0,2),(1,3),(2,4),(3,6)],size:=4,bytes:=24,zv:=[((.int .i64 (0:Int)),.pr),((.int .i64 (0:Int)),.pr),((.bool false),.pr),((.int .u8 (0:Int)),.pr)],leafs:=[.int .i64,.int .i64,.bool,.int .u8],deep:=false}
def T8:TyD:={under:=.struct [(0,2),(1,3),(2,4),(3,6)],size:=4,bytes:=24,zv:=[((.int .i64 (0:Int)),.pr),((.int .i64 (0:Int)),.pr),((.bool false),.pr),((.int .u8 (0:Int)),.pr)],leafs:=[.int .i64,.int .i64,.bool,.int .u8],deep:=false}
def T9:TyD:={under:=.string,size:=1,bytes:=16,zv:=[((.str ⟨#[]⟩),.pr)],leafs:=[.string],deep:=false}
def T22:TyD:={under:=.slice 3,size:=1,bytes:=24,zv:=[((.sl 1 []),.own true)],leafs:=[.slice 3],deep:=false}
def T23:TyD:={under:=.slice 9,size:=1,bytes:=24,zv:=[((.sl 1 []),.own true)],leafs:=[.slice 9],deep:=false}
def T25:TyD:={under:=.slice 2,size:=1,bytes:=24,zv:=[((.sl 1 []),.own true)],leafs:=[.slice 2],deep:=false}
def T26:TyD:={under:=.slice 48,size:=1,bytes:=24,zv:=[((.sl 7 []),.own true)],leafs:=[.slice 48],deep:=false}
def T27:TyD:={under:=.slice 50,size:=1,bytes:=24,zv:=[((.sl 6 []),.own true)],leafs:=[.slice 50],deep:=false}
def T28:TyD:={under:=.slice 53,size:=1,bytes:=24,zv:=[((.sl 1 []),.own true)],leafs:=[.slice 53],deep:=false}
def T30:TyD:={under:=.struct [(0,9),(1,3),(2,3),(3,25),(4,23),(5,23),(6,26),(7,27),(8,28)],size:=9,bytes:=176,zv:=[((.str ⟨#[]⟩),.pr),((.int .i64 (0:Int)),.pr),((.int .i64 (0:Int)),.pr),((.sl 1 []),.own true),((.sl 1 []),.own true),((.sl 1 []),.own true),((.sl 7 []),.own true),((.sl 6 []),.own true),((.sl 1 []),.own true)],leafs:=[.string,.int .i64,.int .i64,.slice 2,.slice 9,.slice 9,.slice 48,.slice 50,.slice 53],deep:=false}
def T36:TyD:={under:=.struct [(0,22),(1,22),(2,23),(3,4)],size:=4,bytes:=80,zv:=[((.sl 1 []),.own true),((.sl 1 []),.own true),((.sl 1 []),.own true),((.bool false),.pr)],leafs:=[.slice 3,.slice 3,.slice 9,.bool],deep:=false}
def T38:TyD:={under:=.struct [(0,22),(1,22),(2,23),(3,4)],size:=4,bytes:=80,zv:=[((.sl 1 []),.own true),((.sl 1 []),.own true),((.sl 1 []),.own true),((.bool false),.pr)],leafs:=[.slice 3,.slice 3,.slice 9,.bool],deep:=false}
def T48:TyD:={under:=.struct [(0,3),(1,3),(2,3),(3,3),(4,3),(5,3),(6,9)],size:=7,bytes:=64,zv:=[((.int .i64 (0:Int)),.pr),((.int .i64 (0:Int)),.pr),((.int .i64 (0:Int)),.pr),((.int .i64 (0:Int)),.pr),((.int .i64 (0:Int)),.pr),((.int .i64 (0:Int)),.pr),((.str ⟨#[]⟩),.pr)],leafs:=[.int .i64,.int .i64,.int .i64,.int .i64,.int .i64,.int .i64,.string],deep:=false}
def T50:TyD:={under:=.struct [(0,3),(1,3),(2,3),(3,3),(4,3),(5,9)],size:=6,bytes:=56,zv:=[((.int .i64 (0:Int)),.pr),((.int .i64 (0:Int)),.pr),((.int .i64 (0:Int)),.pr),((.int .i64 (0:Int)),.pr),((.int .i64 (0:Int)),.pr),((.str ⟨#[]⟩),.pr)],leafs:=[.int .i64,.int .i64,.int .i64,.int .i64,.int .i64,.string],deep:=false}
def T52:TyD:={under:=.struct [(0,3),(1,3),(2,2),(3,9)],size:=4,bytes:=40,zv:=[((.int .i64 (0:Int)),.pr),((.int .i64 (0:Int)),.pr),((.int .i64 (0:Int)),.pr),((.str ⟨#[]⟩),.pr)],leafs:=[.int .i64,.int .i64,.int .i64,.string],deep:=false}
def T53:TyD:={under:=.slice 52,size:=1,bytes:=24,zv:=[((.sl 4 []),.own true)],leafs:=[.slice 52],deep:=false}
def T54:TyD:={under:=.slice 30,size:=1,bytes:=24,zv:=[((.sl 9 []),.own true)],leafs:=[.slice 30],deep:=false}
def T56:TyD:={under:=.struct [(0,3),(1,3),(2,3),(3,3),(4,22),(5,22)],size:=6,bytes:=80,zv:=[((.int .i64 (0:Int)),.pr),((.int .i64 (0:Int)),.pr),((.int .i64 (0:Int)),.pr),((.int .i64 (0:Int)),.pr),((.sl 1 []),.own true),((.sl 1 []),.own true)],leafs:=[.int .i64,.int .i64,.int .i64,.int .i64,.slice 3,.slice 3],deep:=false}
def T57:TyD:={under:=.slice 56,size:=1,bytes:=24,zv:=[((.sl 6 []),.own true)],leafs:=[.slice 56],deep:=false}
def T59:TyD:={under:=.struct [(0,3),(1,3),(2,3),(3,3),(4,3)],size:=5,bytes:=40,zv:=[((.int .i64 (0:Int)),.pr),((.int .i64 (0:Int)),.pr),((.int .i64 (0:Int)),.pr),((.int .i64 (0:Int)),.pr),((.int .i64 (0:Int)),.pr)],leafs:=[.int .i64,.int .i64,.int .i64,.int .i64,.int .i64],deep:=false}
def T60:TyD:={under:=.slice 59,size:=1,bytes:=24,zv:=[((.sl 5 []),.own true)],leafs:=[.slice 59],deep:=false}
def T62:TyD:={under:=.struct [(0,3),(1,54),(2,57),(3,60),(4,23),(5,23)],size:=6,bytes:=128,zv:=[((.int .i64 (0:Int)),.pr),((.sl 9 []),.own true),((.sl 6 []),.own true),((.sl 5 []),.own true),((.sl 1 []),.own true),((.sl 1 []),.own true)],leafs:=[.int .i64,.slice 30,.slice 56,.slice 59,.slice 9,.slice 9],deep:=false}
def T67:TyD:={under:=.slice 109,size:=1,bytes:=24,zv:=[((.sl 3 []),.own true)],leafs:=[.slice 109],deep:=false}
def T68:TyD:={under:=.slice 124,size:=1,bytes:=24,zv:=[((.sl 7 []),.own true)],leafs:=[.slice 124],deep:=true}
def T70:TyD:={under:=.struct [(0,9),(1,3),(2,3),(3,67),(4,67),(5,67),(6,68),(7,3)],size:=8,bytes:=136,zv:=[((.str ⟨#[]⟩),.pr),((.int .i64 (0:Int)),.pr),((.int .i64 (0:Int)),.pr),((.sl 3 []),.own true),((.sl 3 []),.own true),((.sl 3 []),.own true),((.sl 7 []),.own true),((.int .i64 (0:Int)),.pr)],leafs:=[.string,.int .i64,.int .i64,.slice 109,.slice 109,.slice 109,.slice 124,.int .i64],deep:=true}
def T72:TyD:={under:=.pointer,size:=1,bytes:=8,zv:=[(.nilp,.pr)],leafs:=[.pointer],deep:=false}
def T74:TyD:={under:=.struct [(0,22),(1,3)],size:=2,bytes:=32,zv:=[((.sl 1 []),.own true),((.int .i64 (0:Int)),.pr)],leafs:=[.slice 3,.int .i64],deep:=false}
def T75:TyD:={under:=.array 8 9,size:=8,bytes:=128,zv:=[((.str ⟨#[]⟩),.pr),((.str ⟨#[]⟩),.pr),((.str ⟨#[]⟩),.pr),((.str ⟨#[]⟩),.pr),((.str ⟨#[]⟩),.pr),((.str ⟨#[]⟩),.pr),((.str ⟨#[]⟩),.pr),((.str ⟨#[]⟩),.pr)],leafs:=[.string,.string,.string,.string,.string,.string,.string,.string],deep:=false}
def T77:TyD:={under:=.pointer,size:=1,bytes:=8,zv:=[(.nilp,.pr)],leafs:=[.pointer],deep:=false}
def T78:TyD:={under:=.slice 4,size:=1,bytes:=24,zv:=[((.sl 1 []),.own true)],leafs:=[.slice 4],deep:=false}
def T80:TyD:={under:=.struct [(0,30),(9,4),(10,23),(11,78),(12,78),(13,23)],size:=14,bytes:=280,zv:=[((.str ⟨#[]⟩),.pr),((.int .i64 (0:Int)),.pr),((.int .i64 (0:Int)),.pr),((.sl 1 []),.own true),((.sl 1 []),.own true),((.sl 1 []),.own true),((.sl 7 []),.own true),((.sl 6 []),.own true),((.sl 1 []),.own true),((.bool false),.pr),((.sl 1 []),.own true),((.sl 1 []),.own true),((.sl 1 []),.own true),((.sl 1 []),.own true)],leafs:=[.string,.int .i64,.int .i64,.slice 2,.slice 9,.slice 9,.slice 48,.slice 50,.slice 53,.bool,.slice 9,.slice 4,.slice 4,.slice 9],deep:=false}
def T100:TyD:={under:=.pointer,size:=1,bytes:=8,zv:=[(.nilp,.pr)],leafs:=[.pointer],deep:=false}
def T102:TyD:={under:=.struct [(0,23),(1,23),(2,23),(3,26)],size:=4,bytes:=96,zv:=[((.sl 1 []),.own true),((.sl 1 []),.own true),((.sl 1 []),.own true),((.sl 7 []),.own true)],leafs:=[.slice 9,.slice 9,.slice 9,.slice 48],deep:=false}
def T105:TyD:={under:=.struct [(0,30),(9,102)],size:=13,bytes:=272,zv:=[((.str ⟨#[]⟩),.pr),((.int .i64 (0:Int)),.pr),((.int .i64 (0:Int)),.pr),((.sl 1 []),.own true),((.sl 1 []),.own true),((.sl 1 []),.own true),((.sl 7 []),.own true),((.sl 6 []),.own true),((.sl 1 []),.own true),((.sl 1 []),.own true),((.sl 1 []),.own true),((.sl 1 []),.own true),((.sl 7 []),.own true)],leafs:=[.string,.int .i64,.int .i64,.slice 2,.slice 9,.slice 9,.slice 48,.slice 50,.slice 53,.slice 9,.slice 9,.slice 9,.slice 48],deep:=false}
def T109:TyD:={under:=.struct [(0,9),(1,2),(2,3)],size:=3,bytes:=32,zv:=[((.str ⟨#[]⟩),.pr),((.int .i64 (0:Int)),.pr),((.int .i64 (0:Int)),.pr)],leafs:=[.string,.int .i64,.int .i64],deep:=false}
def T111:TyD:={under:=.pointer,size:=1,bytes:=8,zv:=[(.nilp,.pr)],leafs:=[.pointer],deep:=false}
def T114:TyD:={under:=.struct [(0,23),(1,23),(2,23),(3,23)],size:=4,bytes:=96,zv:=[((.sl 1 []),.own true),((.sl 1 []),.own true),((.sl 1 []),.own true),((.sl 1 []),.own true)],leafs:=[.slice 9,.slice 9,.slice 9,.slice 9],deep:=false}
def T116:TyD:={under:=.struct [(0,72),(1,114),(5,3),(6,23)],size:=7,bytes:=136,zv:=[(.nilp,.pr),((.sl 1 []),.own true),((.sl 1 []),.own true),((.sl 1 []),.own true),((.sl 1 []),.own true),((.int .i64 (0:Int)),.pr),((.sl 1 []),.own true)],leafs:=[.pointer,.slice 9,.slice 9,.slice 9,.slice 9,.int .i64,.slice 9],deep:=false}
def T118:TyD:={under:=.array 4 3,size:=4,bytes:=32,zv:=[((.int .i64 (0:Int)),.pr),((.int .i64 (0:Int)),.pr),((.int .i64 (0:Int)),.pr),((.int .i64 (0:Int)),.pr)],leafs:=[.int .i64,.int .i64,.int .i64,.int .i64],deep:=false}
def T121:TyD:={under:=.slice 167,size:=1,bytes:=24,zv:=[((.sl 8 []),.own true)],leafs:=[.slice 167],deep:=true}
def T122:TyD:={under:=.slice 142,size:=1,bytes:=24,zv:=[((.sl 5 []),.own true)],leafs:=[.slice 142],deep:=true}
def T124:TyD:={under:=.struct [(0,3),(1,9),(2,121),(3,121),(4,122),(5,68),(6,3)],size:=7,bytes:=128,zv:=[((.int .i64 (0:Int)),.pr),((.str ⟨#[]⟩),.pr),((.sl 8 []),.own true),((.sl 8 []),.own true),((.sl 5 []),.own true),((.sl 7 []),.own true),((.int .i64 (0:Int)),.pr)],leafs:=[.int .i64,.string,.slice 167,.slice 167,.slice 142,.slice 124,.int .i64],deep:=true}
def T132:TyD:={under:=.pointer,size:=1,bytes:=8,zv:=[(.nilp,.pr)],leafs:=[.pointer],deep:=false}
def T133:TyD:={under:=.slice 22,size:=1,bytes:=24,zv:=[((.sl 1 []),.own true)],leafs:=[.slice 22],deep:=false}
def T135:TyD:={under:=.struct [(0,26),(1,133),(2,78),(3,3)],size:=4,bytes:=80,zv:=[((.sl 7 []),.own true),((.sl 1 []),.own true),((.sl 1 []),.own true),((.int .i64 (0:Int)),.pr)],leafs:=[.slice 48,.slice 22,.slice 4,.int .i64],deep:=false}
def T140:TyD:={under:=.slice 146,size:=1,bytes:=24,zv:=[((.sl 5 []),.own true)],leafs:=[.slice 146],deep:=true}
def T142:TyD:={under:=.struct [(0,9),(1,140),(2,9),(3,121),(4,3)],size:=5,bytes:=88,zv:=[((.str ⟨#[]⟩),.pr),((.sl 5 []),.own true),((.str ⟨#[]⟩),.pr),((.sl 8 []),.own true),((.int .i64 (0:Int)),.pr)],leafs:=[.string,.slice 146,.string,.slice 167,.int .i64],deep:=true}
def T146:TyD:={under:=.struct [(0,3),(1,2),(2,9),(3,140),(4,3)],size:=5,bytes:=64,zv:=[((.int .i64 (0:Int)),.pr),((.int .i64 (0:Int)),.pr),((.str ⟨#[]⟩),.pr),((.sl 5 []),.own true),((.int .i64 (0:Int)),.pr)],leafs:=[.int .i64,.int .i64,.string,.slice 146,.int .i64],deep:=true}
def T158:TyD:={under:=.pointer,size:=1,bytes:=8,zv:=[(.nilp,.pr)],leafs:=[.pointer],deep:=false}
def T160:TyD:={under:=.struct [(0,26),(1,133),(2,22)],size:=3,bytes:=72,zv:=[((.sl 7 []),.own true),((.sl 1 []),.own true),((.sl 1 []),.own true)],leafs:=[.slice 48,.slice 22,.slice 3],deep:=false}
def T167:TyD:={under:=.struct [(0,3),(1,9),(2,9),(3,140),(4,3),(5,121),(6,121),(7,3)],size:=8,bytes:=128,zv:=[((.int .i64 (0:Int)),.pr),((.str ⟨#[]⟩),.pr),((.str ⟨#[]⟩),.pr),((.sl 5 []),.own true),((.int .i64 (0:Int)),.pr),((.sl 8 []),.own true),((.sl 8 []),.own true),((.int .i64 (0:Int)),.pr)],leafs:=[.int .i64,.string,.string,.slice 146,.int .i64,.slice 167,.slice 167,.int .i64],deep:=true}
def T168:TyD:={under:=.array 6 3,size:=6,bytes:=48,zv:=[((.int .i64 (0:Int)),.pr),((.int .i64 (0:Int)),.pr),((.int .i64 (0:Int)),.pr),((.int .i64 (0:Int)),.pr),((.int .i64 (0:Int)),.pr),((.int .i64 (0:Int)),.pr)],leafs:=[.int .i64,.int .i64,.int .i64,.int .i64,.int .i64,.int .i64],deep:=false}
def S3:Sig:={params:=[.val .ro (.sl 1),.val .pr .bool,.val .ro (.sl 1),.val .ro (.sl 1),.val .pr (.int .i64)],boxes:=[],outs:=[(.pr,.bool)]}
def S4:Sig:={params:=[],boxes:=[],outs:=[(.pr,.bool)]}
def S5:Sig:={params:=[.val .ro (.sl 1)],boxes:=[],outs:=[(.ro,.agg [.str,.int .i64,.int .i64,.sl 1,.sl 1,.sl 1,.sl 7,.sl 6,.sl 1])]}
def S6:Sig:={params:=[.val .pr (.int .i64)],boxes:=[],outs:=[(.pr,.str)]}
def S7:Sig:={params:=[.val .pr (.int .i64),.val .pr (.int .i64)],boxes:=[],outs:=[(.pr,.int .i64)]}
def S8:Sig:={params:=[.val .ro (.agg [.sl 1,.sl 1,.sl 1,.bool]),.val .ro (.agg [.sl 1,.sl 1,.sl 1,.bool])],boxes:=[],outs:=[(.pr,.bool)]}
def S9:Sig:={params:=[.val .ro (.agg [.str,.int .i64,.int .i64,.sl 1,.sl 1,.sl 1,.sl 7,.sl 6,.sl 1]),.val .pr .bool,.val .ro (.sl 1)],boxes:=[],outs:=[(.ro,.agg [.sl 1,.sl 1,.sl 1,.bool])]}
def S10:Sig:={params:=[.val .ro (.agg [.str,.int .i64,.int .i64,.sl 1,.sl 1,.sl 1,.sl 7,.sl 6,.sl 1]),.val .pr .bool,.val .ro (.sl 1)],boxes:=[],outs:=[(.ro,.agg [.sl 1,.sl 1,.sl 1,.bool])]}
def S11:Sig:={params:=[.val .ro (.agg [.str,.int .i64,.int .i64,.sl 1,.sl 1,.sl 1,.sl 7,.sl 6,.sl 1])],boxes:=[],outs:=[(.ro,.agg [.sl 1,.sl 1,.sl 1,.bool])]}
def S12:Sig:={params:=[.val .ro (.agg [.str,.int .i64,.int .i64,.sl 1,.sl 1,.sl 1,.sl 7,.sl 6,.sl 1])],boxes:=[],outs:=[(.ro,.agg [.sl 1,.sl 1,.sl 1,.bool])]}
def S13:Sig:={params:=[.val .ro (.sl 1),.val .ro (.sl 1)],boxes:=[],outs:=[(.pr,.bool)]}
def S14:Sig:={params:=[.val .ro (.agg [.str,.int .i64,.int .i64,.sl 1,.sl 1,.sl 1,.sl 7,.sl 6,.sl 1]),.val .pr (.int .i64)],boxes:=[],outs:=[(.ro,.sl 1)]}
def S15:Sig:={params:=[.val .ro (.agg [.str,.int .i64,.int .i64,.sl 1,.sl 1,.sl 1,.sl 7,.sl 6,.sl 1]),.val .pr (.int .i64)],boxes:=[],outs:=[(.ro,.sl 1)]}
def S16:Sig:={params:=[.val .ro (.agg [.str,.int .i64,.int .i64,.sl 1,.sl 1,.sl 1,.sl 7,.sl 6,.sl 1]),.val .ro (.sl 1),.val .pr (.int .i64)],boxes:=[],outs:=[(.pr,.int .i64)]}
def S17:Sig:={params:=[.val .ro (.agg [.str,.int .i64,.int .i64,.sl 1,.sl 1,.sl 1,.sl 7,.sl 6,.sl 1]),.val .ro (.sl 1),.val .pr (.int .i64)],boxes:=[],outs:=[(.pr,.int .i64)]}
def S18:Sig:={params:=[.val .ro (.agg [.str,.int .i64,.int .i64,.sl 1,.sl 1,.sl 1,.sl 7,.sl 6,.sl 1])],boxes:=[],outs:=[(.pr,.int .i64)]}
def S19:Sig:={params:=[.val .ro (.agg [.str,.int .i64,.int .i64,.sl 1,.sl 1,.sl 1,.sl 7,.sl 6,.sl 1])],boxes:=[],outs:=[(.pr,.int .i64)]}
def S20:Sig:={params:=[.val .ro (.agg [.int .i64,.sl 9,.sl 6,.sl 5,.sl 1,.sl 1]),.val .pr (.int .i64),.val .pr (.int .i64)],boxes:=[],outs:=[(.ro,.sl 1)]}
def S21:Sig:={params:=[.val .ro (.agg [.int .i64,.sl 9,.sl 6,.sl 5,.sl 1,.sl 1]),.val .pr (.int .i64),.val .pr (.int .i64)],boxes:=[],outs:=[(.pr,.int .i64)]}
def S22:Sig:={params:=[.val .ro (.agg [.int .i64,.sl 9,.sl 6,.sl 5,.sl 1,.sl 1]),.val .pr (.int .i64)],boxes:=[],outs:=[(.pr,.int .i64)]}
def S23:Sig:={params:=[.val .ro (.agg [.str,.int .i64,.int .i64,.sl 3,.sl 3,.sl 3,.sl 7,.int .i64])],boxes:=[],outs:=[(.ro,.agg [.str,.int .i64,.int .i64,.sl 1,.sl 1,.sl 1,.sl 7,.sl 6,.sl 1])]}
def S24:Sig:={params:=[.ptr 0 0,.val .pr .str,.val .pr (.int .i64)],boxes:=[[.fix (.sl 1),.val .pr (.int .i64)]],outs:=[(.ro,.agg [.str,.int .i64,.int .i64,.sl 3,.sl 3,.sl 3,.sl 7,.int .i64])]}
def S25:Sig:={params:=[.val .ro (.sl 1),.val .ro (.sl 1)],boxes:=[],outs:=[(.pr,.bool)]}
def S26:Sig:={params:=[.ptr 0 0,.val .pr .bool],boxes:=[[.val .pr .str,.val .pr (.int .i64),.val .pr (.int .i64),.fix (.sl 1),.fix (.sl 1),.fix (.sl 1),.fix (.sl 7),.fix (.sl 6),.fix (.sl 1),.val .pr .bool,.fix (.sl 1),.val (.own true) (.sl 1),.val (.own true) (.sl 1),.val .ro (.sl 1)]],outs:=[(.ro,.agg [.sl 1,.sl 1,.sl 1,.bool])]}
def S27:Sig:={params:=[.val .ro (.agg [.str,.int .i64,.int .i64,.sl 1,.sl 1,.sl 1,.sl 7,.sl 6,.sl 1]),.val .pr .bool,.val .ro (.sl 1),.val .ro (.sl 1)],boxes:=[],outs:=[(.ro,.agg [.sl 1,.sl 1,.sl 1,.bool])]}
def S28:Sig:={params:=[.val .ro (.sl 1),.val .pr .str],boxes:=[],outs:=[(.pr,.bool)]}
def S29:Sig:={params:=[.val .ro (.sl 7)],boxes:=[],outs:=[(.ro,.sl 1)]}
def S30:Sig:={params:=[.ptr 0 0,.val .pr (.int .i64)],boxes:=[[.val .pr .str,.val .pr (.int .i64),.val .pr (.int .i64),.fix (.sl 1),.fix (.sl 1),.fix (.sl 1),.fix (.sl 7),.fix (.sl 6),.fix (.sl 1),.val .pr .bool,.fix (.sl 1),.fix (.sl 1),.val (.own true) (.sl 1),.fix (.sl 1)]],outs:=[]}
def S31:Sig:={params:=[.val .ro (.agg [.str,.int .i64,.int .i64,.sl 1,.sl 1,.sl 1,.sl 7,.sl 6,.sl 1])],boxes:=[],outs:=[(.ro,.sl 1)]}
def S32:Sig:={params:=[.val .ro (.sl 1),.val .ro (.sl 1)],boxes:=[],outs:=[(.pr,.bool)]}
def S34:Sig:={params:=[.val .ro (.agg [.int .i64,.int .i64,.int .i64,.str]),.ptr 0 0],boxes:=[[.val .pr (.int .i64)]],outs:=[(.pr,.bool)]}
def S35:Sig:={params:=[.val .ro (.agg [.str,.int .i64,.int .i64,.sl 1,.sl 1,.sl 1,.sl 7,.sl 6,.sl 1]),.val .ro (.sl 1),.val .pr (.int .i64),.val .pr (.int .i64)],boxes:=[],outs:=[(.ro,.sl 1)]}
def S36:Sig:={params:=[.val .ro (.sl 4),.val .pr (.int .i64)],boxes:=[],outs:=[(.pr,.int .i64)]}
def S37:Sig:={params:=[.val .ro (.sl 4),.val .pr (.int .i64)],boxes:=[],outs:=[(.pr,.int .i64)]}
def S38:Sig:={params:=[.val .ro (.sl 4)],boxes:=[],outs:=[(.pr,.int .i64)]}
def S39:Sig:={params:=[.val .ro (.sl 4)],boxes:=[],outs:=[(.pr,.int .i64)]}
def S40:Sig:={params:=[.val .ro (.agg [.int .i64,.sl 9,.sl 6,.sl 5,.sl 1,.sl 1]),.val .pr (.int .i64)],boxes:=[],outs:=[(.ro,.agg [.int .i64,.int .i64,.int .i64,.int .i64,.sl 1,.sl 1]),(.ro,.agg [.str,.int .i64,.int .i64,.sl 1,.sl 1,.sl 1,.sl 7,.sl 6,.sl 1]),(.pr,.bool)]}
def S41:Sig:={params:=[.val .ro (.agg [.int .i64,.sl 9,.sl 6,.sl 5,.sl 1,.sl 1]),.val .pr (.int .i64),.val .pr (.int .i64)],boxes:=[],outs:=[(.pr,.bool),(.ro,.sl 1)]}
def S43:Sig:={params:=[.val .pr (.int .i64),.ptr 0 0,.ptr 1 0,.ptr 2 0],boxes:=[[.val .pr (.int .i64)],[.val .pr .str,.val .pr (.int .i64),.val .pr (.int .i64),.fix (.sl 1),.fix (.sl 1),.fix (.sl 1),.fix (.sl 7),.fix (.sl 6),.fix (.sl 1)],[.fix (.sl 1),.fix (.sl 1),.fix (.sl 1),.val .pr .bool]],outs:=[(.pr,.int .i64)]}
def S44:Sig:={params:=[.val .ro (.agg [.int .i64,.sl 9,.sl 6,.sl 5,.sl 1,.sl 1]),.val .ro (.agg [.int .i64,.int .i64,.int .i64,.int .i64,.sl 1,.sl 1]),.val .pr (.int .i64)],boxes:=[],outs:=[(.ro,.agg [.int .i64,.int .i64,.int .i64,.int .i64,.int .i64]),(.pr,.bool)]}
def S45:Sig:={params:=[.val .ro (.agg [.str,.int .i64,.int .i64,.sl 3,.sl 3,.sl 3,.sl 7,.int .i64])],boxes:=[],outs:=[(.ro,.agg [.sl 1,.sl 1,.sl 1,.sl 7])]}
def S46:Sig:={params:=[.val .ro (.sl 3)],boxes:=[],outs:=[(.ro,.sl 1)]}
def S47:Sig:={params:=[.val .ro (.agg [.str,.int .i64,.int .i64,.sl 3,.sl 3,.sl 3,.sl 7,.int .i64])],boxes:=[],outs:=[((.own true),.sl 7)]}
def S48:Sig:={params:=[.ptr 0 0,.val .ro (.sl 7)],boxes:=[[.val .pr .str,.val .pr (.int .i64),.val .pr (.int .i64),.fix (.sl 1),.fix (.sl 1),.fix (.sl 1),.val (.own true) (.sl 7),.val (.own true) (.sl 6),.val (.own true) (.sl 1),.fix (.sl 1),.fix (.sl 1),.fix (.sl 1),.fix (.sl 7)]],outs:=[]}
def S49:Sig:={params:=[.ptr 0 0,.val .pr (.int .i64)],boxes:=[[.fix (.sl 1),.val .pr (.int .i64)]],outs:=[(.pr,.int .i64)]}
def S50:Sig:={params:=[.val .pr .str,.val .pr (.int .i64)],boxes:=[],outs:=[(.ro,.sl 1)]}
def S51:Sig:={params:=[.val .ro (.sl 1),.ptr 0 0],boxes:=[[.fix (.sl 1),.val .pr (.int .i64)]],outs:=[(.ro,.sl 3)]}
def S52:Sig:={params:=[.val .ro (.sl 1)],boxes:=[],outs:=[(.ro,.sl 3)]}
def S53:Sig:={params:=[.ptr 0 0,.val .pr (.int .i64),.val .pr .bool],boxes:=[[.ptr 1 0,.fix (.sl 1),.fix (.sl 1),.fix (.sl 1),.fix (.sl 1),.val .pr (.int .i64),.val (.own true) (.sl 1)],[.fix (.sl 1),.val .pr (.int .i64)]],outs:=[((.own true),.agg [.int .i64,.str,.sl 8,.sl 8,.sl 5,.sl 7,.int .i64])]}
def S54:Sig:={params:=[.ptr 0 0,.val (.own true) (.agg [.int .i64,.str,.sl 8,.sl 8,.sl 5,.sl 7,.int .i64])],boxes:=[[.ptr 1 0,.fix (.sl 1),.fix (.sl 1),.fix (.sl 1),.fix (.sl 1),.val .pr (.int .i64),.fix (.sl 1)],[.fix (.sl 1),.val .pr (.int .i64)]],outs:=[((.own true),.agg [.int .i64,.str,.sl 8,.sl 8,.sl 5,.sl 7,.int .i64])]}
def S55:Sig:={params:=[.val .ro (.sl 1)],boxes:=[],outs:=[((.own true),.sl 1)]}
def S56:Sig:={params:=[.val .ro (.agg [.int .i64,.int .i64,.int .i64,.str])],boxes:=[],outs:=[(.pr,.bool)]}
def S57:Sig:={params:=[.ptr 0 0,.val .ro (.agg [.int .i64,.int .i64,.int .i64,.int .i64,.int .i64,.str])],boxes:=[[.val .pr .str,.val .pr (.int .i64),.val .pr (.int .i64),.fix (.sl 1),.fix (.sl 1),.fix (.sl 1),.fix (.sl 7),.fix (.sl 6),.fix (.sl 1),.val .pr .bool,.fix (.sl 1),.fix (.sl 1),.fix (.sl 1),.fix (.sl 1)]],outs:=[(.pr,.bool)]}
def S58:Sig:={params:=[.val .ro (.sl 1),.val .pr .str],boxes:=[],outs:=[(.pr,.bool)]}
def S59:Sig:={params:=[.ptr 0 0,.val .ro (.agg [.int .i64,.int .i64,.int .i64,.int .i64,.int .i64,.str])],boxes:=[[.val .pr .str,.val .pr (.int .i64),.val .pr (.int .i64),.fix (.sl 1),.fix (.sl 1),.fix (.sl 1),.fix (.sl 7),.fix (.sl 6),.fix (.sl 1),.val .pr .bool,.fix (.sl 1),.fix (.sl 1),.val (.own true) (.sl 1),.fix (.sl 1)]],outs:=[]}
def S60:Sig:={params:=[.val .ro (.sl 1),.val .pr .bool],boxes:=[],outs:=[(.pr,.bool)]}
def S61:Sig:={params:=[.val .ro (.agg [.str,.int .i64,.int .i64,.sl 1,.sl 1,.sl 1,.sl 7,.sl 6,.sl 1]),.val .ro (.sl 1)],boxes:=[],outs:=[((.own true),.sl 1)]}
def S62:Sig:={params:=[.val .ro (.agg [.str,.int .i64,.int .i64,.sl 1,.sl 1,.sl 1,.sl 7,.sl 6,.sl 1]),.val .ro (.sl 1)],boxes:=[],outs:=[((.own true),.sl 1)]}
def S63:Sig:={params:=[.ptr 0 0,.val .pr (.int .i64)],boxes:=[[.fix (.sl 7),.fix (.sl 1),.val (.own true) (.sl 1),.val .pr (.int .i64)]],outs:=[]}
def S64:Sig:={params:=[.ptr 0 0],boxes:=[[.fix (.sl 7),.fix (.sl 1),.val (.own true) (.sl 1),.val .pr (.int .i64)]],outs:=[(.ro,.sl 1)]}
def S65:Sig:={params:=[.val .ro (.sl 7)],boxes:=[],outs:=[(.ro,.sl 1)]}
def S66:Sig:={params:=[.val (.own true) (.sl 7),.val .ro (.sl 7),.val .pr (.int .i64)],boxes:=[],outs:=[((.own true),.sl 7)]}
def S67:Sig:={params:=[.val .ro (.sl 7),.val .pr .str],boxes:=[],outs:=[(.pr,.int .i64)]}
def S68:Sig:={params:=[.ptr 0 0,.val .ro (.sl 8)],boxes:=[[.val .pr .str,.val .pr (.int .i64),.val .pr (.int .i64),.fix (.sl 1),.fix (.sl 1),.fix (.sl 1),.fix (.sl 7),.fix (.sl 6),.val (.own true) (.sl 1),.fix (.sl 1),.fix (.sl 1),.fix (.sl 1),.fix (.sl 7)]],outs:=[(.pr,.int .i64)]}
def S69:Sig:={params:=[.val .ro (.sl 7),.val .pr (.int .i64),.val .pr (.int .i64)],boxes:=[],outs:=[(.pr,.int .i64)]}
def S70:Sig:={params:=[.val .ro (.agg [.int .i64,.int .i64,.str,.sl 5,.int .i64]),.val .ro (.agg [.sl 1,.sl 1,.sl 1,.sl 7])],boxes:=[],outs:=[((.own true),.sl 4)]}
def S71:Sig:={params:=[.val .pr (.int .i64)],boxes:=[],outs:=[(.pr,.str)]}
def S72:Sig:={params:=[.ptr 0 0,.val .ro (.agg [.sl 1,.sl 1,.sl 1,.sl 1]),.val .pr (.int .i64)],boxes:=[[.fix (.sl 1),.val .pr (.int .i64)]],outs:=[((.own true),.sl 8)]}
def S73:Sig:={params:=[.ptr 0 0,.val .ro (.agg [.sl 1,.sl 1,.sl 1,.sl 1]),.val .pr (.int .i64)],boxes:=[[.fix (.sl 1),.val .pr (.int .i64)]],outs:=[((.own true),.agg [.int .i64,.int .i64,.str,.sl 5,.int .i64])]}
def S74:Sig:={params:=[.ptr 0 0,.val .ro (.sl 1),.val .pr .str],boxes:=[[.fix (.sl 1),.val .pr (.int .i64)]],outs:=[(.pr,.str)]}
def S75:Sig:={params:=[.val .ro (.sl 1),.val .pr .str],boxes:=[],outs:=[(.pr,.int .i64)]}
def S76:Sig:={params:=[.val .ro (.sl 7),.val .pr (.int .i64),.val .pr (.int .i64)],boxes:=[],outs:=[(.pr,.bool)]}
def S77:Sig:={params:=[.val .ro (.sl 1),.val .pr .bool],boxes:=[],outs:=[(.pr,.int .i64)]}
def S78:Sig:={params:=[.val .ro (.sl 1),.val .pr (.int .i64)],boxes:=[],outs:=[(.pr,.bool)]}
def S79:Sig:={params:=[.val .ro (.sl 7),.val .pr (.int .i64),.val .pr (.int .i64)],boxes:=[],outs:=[(.pr,.bool)]}
def S80:Sig:={params:=[.val .ro (.sl 7),.val .pr (.int .i64)],boxes:=[],outs:=[(.pr,.bool)]}
def S81:Sig:={params:=[.ptr 0 0],boxes:=[[.fix (.sl 7),.fix (.sl 1),.val (.own true) (.sl 1),.val .pr (.int .i64)]],outs:=[(.pr,.bool)]}
def S82:Sig:={params:=[.val .ro (.agg [.int .i64,.int .i64,.int .i64,.int .i64,.int .i64,.int .i64,.str])],boxes:=[],outs:=[(.pr,.bool)]}
def S83:Sig:={params:=[.ptr 0 0,.val .pr (.int .i64)],boxes:=[[.fix (.sl 7),.fix (.sl 1),.val (.own true) (.sl 1),.val .pr (.int .i64)]],outs:=[(.ro,.sl 1)]}
def S84:Sig:={params:=[.ptr 0 0,.val .pr (.int .i64),.val .pr (.int .i64)],boxes:=[[.fix (.sl 7),.fix (.sl 1),.val (.own true) (.sl 1),.val .pr (.int .i64)]],outs:=[]}
def S85:Sig:={params:=[.ptr 0 0,.val .pr (.int .i64)],boxes:=[[.fix (.sl 7),.fix (.sl 1),.val (.own true) (.sl 1),.val .pr (.int .i64)]],outs:=[]}
def S86:Sig:={params:=[.ptr 0 0,.val .pr (.int .i64)],boxes:=[[.fix (.sl 7),.fix (.sl 1),.val (.own true) (.sl 1)]],outs:=[]}
def S87:Sig:={params:=[.val .ro (.sl 1)],boxes:=[],outs:=[(.ro,.sl 1)]}
def S88:Sig:={params:=[.val .ro (.agg [.int .i64,.str,.sl 8,.sl 8,.sl 5,.sl 7,.int .i64])],boxes:=[],outs:=[(.pr,.int .i64)]}
def S89:Sig:={params:=[.val .ro (.agg [.int .i64,.int .i64,.int .i64,.int .i64,.int .i64,.int .i64,.str])],boxes:=[],outs:=[(.pr,.bool)]}
def S90:Sig:={params:=[.val .ro (.sl 8),.val .ro (.agg [.sl 1,.sl 1,.sl 1,.sl 7])],boxes:=[],outs:=[((.own true),.sl 4)]}
def S91:Sig:={params:=[.val .ro (.sl 7),.val .pr (.int .i64)],boxes:=[],outs:=[(.pr,.bool)]}
def S92:Sig:={params:=[.val (.own true) (.sl 4),.val .ro (.agg [.int .i64,.int .i64,.str,.sl 5,.int .i64]),.val .ro (.agg [.sl 1,.sl 1,.sl 1,.sl 7])],boxes:=[],outs:=[((.own true),.sl 4)]}
def S93:Sig:={params:=[.val .pr (.int .i64)],boxes:=[],outs:=[(.pr,.str)]}
def S94:Sig:={params:=[.val .ro (.sl 7),.val .pr (.int .i64)],boxes:=[],outs:=[(.pr,.bool)]}
def S95:Sig:={params:=[.val .ro (.sl 7),.val .pr (.int .i64)],boxes:=[],outs:=[(.ro,.sl 1)]}
def S96:Sig:={params:=[.val .ro (.sl 7),.val .pr (.int .i64),.val .pr (.int .i64)],boxes:=[],outs:=[(.pr,.bool)]}
def S97:Sig:={params:=[.ptr 0 0,.val .pr (.int .i64)],boxes:=[[.fix (.sl 7),.fix (.sl 1),.val (.own true) (.sl 1),.val .pr (.int .i64)]],outs:=[(.pr,.bool)]}
def S98:Sig:={params:=[.ptr 0 0,.val .pr (.int .i64)],boxes:=[[.fix (.sl 7),.fix (.sl 1),.val (.own true) (.sl 1)]],outs:=[(.ro,.sl 1)]}
def S99:Sig:={params:=[.ptr 0 0,.val .pr (.int .i64),.val .pr (.int .i64)],boxes:=[[.fix (.sl 7),.fix (.sl 1),.val (.own true) (.sl 1)]],outs:=[]}
def S100:Sig:={params:=[.ptr 0 0,.val .pr (.int .i64)],boxes:=[[.fix (.sl 7),.fix (.sl 1),.val (.own true) (.sl 1)]],outs:=[]}
def S101:Sig:={params:=[.val (.own true) (.sl 4),.val .ro (.sl 8),.val .ro (.agg [.sl 1,.sl 1,.sl 1,.sl 7])],boxes:=[],outs:=[((.own true),.sl 4)]}
def S102:Sig:={params:=[.val .ro (.sl 1),.val .pr .str],boxes:=[],outs:=[(.pr,.int .i64)]}
def S103:Sig:={params:=[.val .pr (.int .i64)],boxes:=[],outs:=[(.pr,.int .i64)]}
def S104:Sig:={params:=[.val (.own true) (.sl 4),.val .ro (.agg [.int .i64,.int .i64,.str,.sl 5,.int .i64]),.val .ro (.agg [.sl 1,.sl 1,.sl 1,.sl 7])],boxes:=[],outs:=[((.own true),.sl 4)]}
def S105:Sig:={params:=[.val (.own true) (.sl 4),.val .ro (.agg [.int .i64,.int .i64,.str,.sl 5,.int .i64]),.val .ro (.agg [.sl 1,.sl 1,.sl 1,.sl 7])],boxes:=[],outs:=[((.own true),.sl 4)]}
def S107:Sig:={params:=[.val .ro (.sl 7),.val .pr (.int .i64)],boxes:=[],outs:=[((.own true),.sl 1)]}
def S108:Sig:={params:=[.val .pr (.int .i64),.ptr 0 0],boxes:=[[.fix (.sl 7)]],outs:=[(.pr,.bool)]}
def S109:Sig:={params:=[.val .ro (.sl 7),.val .pr (.int .i64)],boxes:=[],outs:=[(.ro,.sl 1)]}
def S110:Sig:={params:=[.ptr 0 0,.val .pr (.int .i64)],boxes:=[[.fix (.sl 7),.fix (.sl 1),.val (.own true) (.sl 1)]],outs:=[(.pr,.bool)]}
def S111:Sig:={params:=[.val (.own true) (.sl 4),.val .ro (.agg [.int .i64,.str,.str,.sl 5,.int .i64,.sl 8,.sl 8,.int .i64]),.val .ro (.agg [.sl 1,.sl 1,.sl 1,.sl 7])],boxes:=[],outs:=[((.own true),.sl 4)]}
def S113:Sig:={params:=[.val .ro (.sl 7),.val .pr (.int .i64)],boxes:=[],outs:=[(.ro,.sl 1)]}
def S114:Sig:={params:=[.val (.own true) (.sl 4),.val .ro (.sl 5),.val .ro (.agg [.sl 1,.sl 1,.sl 1,.sl 7])],boxes:=[],outs:=[((.own true),.sl 4)]}
def S65569:Sig:={params:=[.val .ro (.agg [.str,.int .i64,.int .i64,.sl 1,.sl 1,.sl 1,.sl 7,.sl 6,.sl 1]),.val .ro (.sl 1),.clo 34 [(0,0)]],boxes:=[[.val .pr (.int .i64)]],outs:=[((.own true),.sl 1)]}
def S65578:Sig:={params:=[.val .ro (.agg [.int .i64,.sl 9,.sl 6,.sl 5,.sl 1,.sl 1]),.val .pr (.int .i64),.clo 43 [(0,0),(1,0),(2,0)]],boxes:=[[.val .pr (.int .i64)],[.val .pr .str,.val .pr (.int .i64),.val .pr (.int .i64),.fix (.sl 1),.fix (.sl 1),.fix (.sl 1),.fix (.sl 7),.fix (.sl 6),.fix (.sl 1)],[.fix (.sl 1),.fix (.sl 1),.fix (.sl 1),.val .pr .bool]],outs:=[(.ro,.sl 1)]}
def S65642:Sig:={params:=[.val (.own true) (.sl 1),.clo 108 [(0,0)]],boxes:=[[.fix (.sl 7)]],outs:=[((.own true),.sl 1)]}
def S65648:Sig:={params:=[.val .ro (.sl 1),.clo 108 [(0,0)]],boxes:=[[.fix (.sl 7)]],outs:=[(.pr,.int .i64)]}
def S131105:Sig:={params:=[.val .ro (.agg [.str,.int .i64,.int .i64,.sl 1,.sl 1,.sl 1,.sl 7,.sl 6,.sl 1]),.val .ro (.sl 1),.clo 56 []],boxes:=[],outs:=[((.own true),.sl 1)]}
def TAB:Tab:={tys:=[(2,T2),(3,T3),(4,T4),(5,T5),(6,T6),(7,T7),(8,T8),(9,T9),(22,T22),(23,T23),(25,T25),(26,T26),(27,T27),(28,T28),(30,T30),(36,T36),(38,T38),(48,T48),(50,T50),(52,T52),(53,T53),(54,T54),(56,T56),(57,T57),(59,T59),(60,T60),(62,T62),(67,T67),(68,T68),(70,T70),(72,T72),(74,T74),(75,T75),(77,T77),(78,T78),(80,T80),(100,T100),(102,T102),(105,T105),(109,T109),(111,T111),(114,T114),(116,T116),(118,T118),(121,T121),(122,T122),(124,T124),(132,T132),(133,T133),(135,T135),(140,T140),(142,T142),(146,T146),(158,T158),(160,T160),(167,T167),(168,T168)],sigs:=[(3,S3),(4,S4),(5,S5),(6,S6),(7,S7),(8,S8),(9,S9),(10,S10),(11,S11),(12,S12),(13,S13),(14,S14),(15,S15),(16,S16),(17,S17),(18,S18),(19,S19),(20,S20),(21,S21),(22,S22),(23,S23),(24,S24),(25,S25),(26,S26),(27,S27),(28,S28),(29,S29),(30,S30),(31,S31),(32,S32),(34,S34),(35,S35),(36,S36),(37,S37),(38,S38),(39,S39),(40,S40),(41,S41),(43,S43),(44,S44),(45,S45),(46,S46),(47,S47),(48,S48),(49,S49),(50,S50),(51,S51),(52,S52),(53,S53),(54,S54),(55,S55),(56,S56),(57,S57),(58,S58),(59,S59),(60,S60),(61,S61),(62,S62),(63,S63),(64,S64),(65,S65),(66,S66),(67,S67),(68,S68),(69,S69),(70,S70),(71,S71),(72,S72),(73,S73),(74,S74),(75,S75),(76,S76),(77,S77),(78,S78),(79,S79),(80,S80),(81,S81),(82,S82),(83,S83),(84,S84),(85,S85),(86,S86),(87,S87),(88,S88),(89,S89),(90,S90),(91,S91),(92,S92),(93,S93),(94,S94),(95,S95),(96,S96),(97,S97),(98,S98),(99,S99),(100,S100),(101,S101),(102,S102),(103,S103),(104,S104),(105,S105),(107,S107),(108,S108),(109,S109),(110,S110),(111,S111),(113,S113),(114,S114),(65569,S65569),(65578,S65578),(65642,S65642),(65648,S65648),(131105,S131105)],takes:=[(38,9,4),(38,9,9),(47,0,1),(47,3,1),(55,0,0),(55,8,1),(61,0,1),(61,7,1),(62,0,1),(62,12,3),(66,0,0),(66,10,1),(70,0,2),(70,1,3),(72,0,1),(72,21,1),(90,0,1),(90,1,3),(92,0,2),(92,3,6),(92,5,9),(92,7,4),(92,9,9),(92,12,13),(92,14,4),(92,16,4),(92,17,19),(101,0,1),(101,5,1),(104,0,2),(104,10,1),(105,0,2),(105,11,1),(107,0,0),(107,8,1),(111,0,2),(111,3,13),(111,5,10),(111,7,15),(111,9,13),(111,11,9),(111,17,1),(111,27,1),(111,29,1),(114,0,1),(114,2,4),(114,3,6),(65569,0,1),(65569,12,1),(65642,0,0),(65642,3,1),(65642,12,2),(65642,12,3),(131105,0,1),(131105,12,1)],varis:=[(4,2,10,1),(4,3,12,1),(14,7,3,1),(20,9,3,1),(26,4,10,2),(95,1,4,1),(65642,1,2,1),(65642,11,2,4)]}
theorem TAB_chk:TAB.chk Tryz.prog=true:=by kernel_rfl
theorem MO:Tryz.prog.follows .mixedOrders=true:=by kernel_rfl
abbrev TL {R:Type} (f:FuncId) (g:LV→(LV→OV R)→OV R):Prop:=Tells Tryz.prog TAB f g
def B0:List PCell:=[.var .str .pr false,.var (.int .i64) .pr false,.var (.int .i64) .pr false,.var (.sl 1) .ro false,.var (.sl 1) .ro false,.var (.sl 1) .ro false,.var (.sl 7) .ro false,.var (.sl 6) .ro false,.var (.sl 1) .ro false]
abbrev J0:List Kd:=[.bool,.sl 1,.sl 1,.int .i64,.sl 1,.str,.int .i64,.int .i64,.sl 1,.sl 1,.sl 1,.sl 7,.sl 6,.sl 1]
abbrev J1:List Kd:=[.bool,.sl 1,.sl 1,.int .i64,.sl 1,.int .i64,.str,.int .i64,.int .i64,.sl 1,.sl 1,.sl 1,.sl 7,.sl 6,.sl 1]
abbrev J2:List Kd:=[.sl 1,.bool,.sl 1,.sl 1,.int .i64]
abbrev J3:List Kd:=[]
abbrev J4:List Kd:=[.sl 1]
abbrev J5:List Kd:=[.int .i64]
abbrev J6:List Kd:=[.int .i64,.int .i64]
abbrev J7:List Kd:=[.agg [.sl 1,.sl 1,.sl 1,.bool],.agg [.sl 1,.sl 1,.sl 1,.bool]]
abbrev J8:List Kd:=[.agg [.str,.int .i64,.int .i64,.sl 1,.sl 1,.sl 1,.sl 7,.sl 6,.sl 1],.bool,.sl 1]
def B1:List PCell:=[.var (.sl 1) (.own true) false,.var (.sl 1) (.own true) false,.var (.sl 1) (.own true) false,.var .bool .pr false]
def B2:List PCell:=[.var (.sl 1) .ro false,.var (.sl 1) .ro false,.var (.sl 1) .ro false,.var .bool .pr false]
abbrev J9:List Kd:=[.sl 1,.sl 1,.sl 1,.bool,.sl 1,.sl 1,.sl 1,.bool]
abbrev J10:List Kd:=[.int .i64,.str,.int .i64,.int .i64,.sl 1,.sl 1,.sl 1,.sl 7,.sl 6,.sl 1,.sl 1,.sl 1,.sl 1,.bool,.sl 1,.sl 1,.sl 1,.bool]
def B3:List PCell:=[.var .str .pr false,.var (.int .i64) .pr false,.var (.int .i64) .pr false,.var (.sl 1) .ro false,.var (.sl 1) .ro false,.var (.sl 1) .ro false,.var (.sl 7) .ro false,.var (.sl 6) .ro false,.var (.sl 1) .ro false,.var .bool .pr false,.var (.sl 1) (.own true) false,.var (.sl 1) (.own true) false,.var (.sl 1) (.own true) false,.var (.sl 1) (.own true) false]
abbrev J11:List Kd:=[.sl 1,.sl 1,.sl 1,.bool,.str,.int .i64,.int .i64,.sl 1,.sl 1,.sl 1,.sl 7,.sl 6,.sl 1,.bool,.sl 1,.sl 1,.sl 1,.sl 1]
abbrev J12:List Kd:=[.sl 1,.int .i64,.int .i64,.str,.int .i64,.int .i64,.sl 1,.sl 1,.sl 1,.sl 7,.sl 6,.sl 1,.sl 1,.sl 1,.sl 1,.bool,.str,.int .i64,.int .i64,.sl 1,.sl 1,.sl 1,.sl 7,.sl 6,.sl 1,.bool,.sl 1,.sl 1,.sl 1,.sl 1]
abbrev J13:List Kd:=[.agg [.str,.int .i64,.int .i64,.sl 1,.sl 1,.sl 1,.sl 7,.sl 6,.sl 1]]
abbrev J14:List Kd:=[.sl 1,.sl 1]
abbrev J15:List Kd:=[.sl 1,.str,.int .i64,.int .i64,.sl 1,.sl 1,.sl 1,.sl 7,.sl 6,.sl 1,.int .i64]
abbrev J16:List Kd:=[.sl 1,.int .i64,.int .i64,.str,.int .i64,.int .i64,.sl 1,.sl 1,.sl 1,.sl 7,.sl 6,.sl 1,.int .i64]
abbrev J17:List Kd:=[.agg [.str,.int .i64,.int .i64,.sl 1,.sl 1,.sl 1,.sl 7,.sl 6,.sl 1],.int .i64]
abbrev J18:List Kd:=[.int .i64,.sl 1,.str,.int .i64,.int .i64,.sl 1,.sl 1,.sl 1,.sl 7,.sl 6,.sl 1]
abbrev J19:List Kd:=[.int .i64,.sl 1,.int .i64,.str,.int .i64,.int .i64,.sl 1,.sl 1,.sl 1,.sl 7,.sl 6,.sl 1]
abbrev J20:List Kd:=[.int .i64,.int .i64,.sl 1,.int .i64,.int .i64,.str,.int .i64,.int .i64,.sl 1,.sl 1,.sl 1,.sl 7,.sl 6,.sl 1]
abbrev J21:List Kd:=[.int .i64,.int .i64,.int .i64,.sl 1,.int .i64,.int .i64,.any,.int .i64,.int .i64,.str,.int .i64,.int .i64,.sl 1,.sl 1,.sl 1,.sl 7,.sl 6,.sl 1]
abbrev J22:List Kd:=[.agg [.str,.int .i64,.int .i64,.sl 1,.sl 1,.sl 1,.sl 7,.sl 6,.sl 1],.sl 1,.int .i64]
abbrev J23:List Kd:=[.sl 1,.int .i64,.int .i64,.int .i64,.str,.int .i64,.int .i64,.sl 1,.sl 1,.sl 1,.sl 7,.sl 6,.sl 1]
abbrev J24:List Kd:=[.sl 1,.int .i64,.int .i64,.int .i64,.any,.int .i64,.str,.int .i64,.int .i64,.sl 1,.sl 1,.sl 1,.sl 7,.sl 6,.sl 1]
abbrev J25:List Kd:=[.int .i64,.str,.int .i64,.int .i64,.sl 1,.sl 1,.sl 1,.sl 7,.sl 6,.sl 1]
abbrev J26:List Kd:=[.int .i64,.sl 1,.int .i64,.int .i64,.str,.int .i64,.int .i64,.sl 1,.sl 1,.sl 1,.sl 7,.sl 6,.sl 1]
abbrev J27:List Kd:=[.int .i64,.int .i64,.str,.int .i64,.int .i64,.sl 1,.sl 1,.sl 1,.sl 7,.sl 6,.sl 1]
abbrev J28:List Kd:=[.agg [.int .i64,.sl 9,.sl 6,.sl 5,.sl 1,.sl 1],.int .i64,.int .i64]
abbrev J29:List Kd:=[.agg [.int .i64,.sl 9,.sl 6,.sl 5,.sl 1,.sl 1],.int .i64]
def B4:List PCell:=[.var .str .pr false,.var (.int .i64) .pr false,.var (.int .i64) .pr false,.var (.sl 3) .ro false,.var (.sl 3) .ro false,.var (.sl 3) .ro false,.var (.sl 7) .ro false,.var (.int .i64) .pr false]
def B5:List PCell:=[.var .str .pr false,.var (.int .i64) .pr false,.var (.int .i64) .pr false,.var (.sl 1) (.own true) false,.var (.sl 1) (.own true) false,.var (.sl 1) (.own true) false,.var (.sl 7) (.own true) false,.var (.sl 6) (.own true) false,.var (.sl 1) (.own true) false]
def B6:List PCell:=[.var .str .pr false,.var (.int .i64) .pr false,.var (.int .i64) .pr false,.var (.sl 1) (.own true) false,.var (.sl 1) .ro false,.var (.sl 1) .ro false,.var (.sl 7) (.own true) false,.var (.sl 6) (.own true) false,.var (.sl 1) (.own true) false,.var (.sl 1) .ro false,.var (.sl 1) .ro false,.var (.sl 1) .ro false,.var (.sl 7) .ro false]
abbrev J30:List Kd:=[.str,.int .i64,.int .i64,.sl 3,.sl 3,.sl 3,.sl 7,.int .i64,.str,.int .i64,.int .i64,.sl 1,.sl 1,.sl 1,.sl 7,.sl 6,.sl 1,.str,.int .i64,.int .i64,.sl 1,.sl 1,.sl 1,.sl 7,.sl 6,.sl 1,.sl 1,.sl 1,.sl 1,.sl 7]
abbrev J31:List Kd:=[.int .i64,.str,.int .i64,.int .i64,.sl 3,.sl 3,.sl 3,.sl 7,.int .i64,.str,.int .i64,.int .i64,.sl 1,.sl 1,.sl 1,.sl 7,.sl 6,.sl 1,.str,.int .i64,.int .i64,.sl 1,.sl 1,.sl 1,.sl 7,.sl 6,.sl 1,.sl 1,.sl 1,.sl 1,.sl 7]
abbrev J32:List Kd:=[.agg [.str,.int .i64,.int .i64,.sl 3,.sl 3,.sl 3,.sl 7,.int .i64]]
def B7:List PCell:=[.var (.sl 1) .ro true,.var (.int .i64) .pr false]
def B8:List PCell:=[.var .str .pr false,.var (.int .i64) .pr false,.var (.int .i64) .pr false,.var (.sl 3) (.own true) false,.var (.sl 3) (.own true) false,.var (.sl 3) (.own true) false,.var (.sl 7) (.own true) false,.var (.int .i64) .pr false]
def B9:List PCell:=[.var .str .pr false,.var (.int .i64) .pr false,.var (.int .i64) .pr false,.var (.sl 3) .ro false,.var (.sl 3) .ro false,.var (.sl 3) .ro false,.var (.sl 7) (.own true) false,.var (.int .i64) .pr false]
def B10:List PCell:=[.stat ⟨(.ptr 0 0),.pt,0,false⟩,.var (.sl 1) .ro false,.var (.sl 1) .ro false,.var (.sl 1) .ro false,.var (.sl 1) (.own true) false,.var (.int .i64) .pr false,.var (.sl 1) (.own true) false]
abbrev J33:List Kd:=[.sl 1,.int .i64,.str,.int .i64,.int .i64,.sl 3,.sl 3,.sl 3,.sl 7,.int .i64,.str,.int .i64,.int .i64,.sl 3,.sl 3,.sl 3,.sl 7,.int .i64,.sl 1,.sl 1,.sl 1,.sl 1,.int .i64,.sl 1]
abbrev J34:List Kd:=[.int .i64,.sl 1,.int .i64,.str,.int .i64,.int .i64,.sl 3,.sl 3,.sl 3,.sl 7,.int .i64,.str,.int .i64,.int .i64,.sl 3,.sl 3,.sl 3,.sl 7,.int .i64,.sl 1,.sl 1,.sl 1,.sl 1,.int .i64,.sl 1]
abbrev J35:List Kd:=[.sl 1,.int .i64,.str,.int .i64,.int .i64,.sl 3,.sl 3,.sl 3,.sl 7,.int .i64,.str,.int .i64,.int .i64,.sl 3,.sl 3,.sl 3,.sl 7,.int .i64]
abbrev J36:List Kd:=[.str,.int .i64,.sl 1,.int .i64]
abbrev J37:List Kd:=[.bool]
abbrev J38:List Kd:=[.sl 1,.sl 1,.int .i64]
def B11:List PCell:=[.var .str .pr false,.var (.int .i64) .pr false,.var (.int .i64) .pr false,.var (.sl 1) .ro true,.var (.sl 1) .ro true,.var (.sl 1) .ro true,.var (.sl 7) .ro true,.var (.sl 6) .ro true,.var (.sl 1) .ro true,.var .bool .pr false,.var (.sl 1) .ro true,.var (.sl 1) (.own true) false,.var (.sl 1) (.own true) false,.var (.sl 1) (.own true) false]
abbrev J39:List Kd:=[.bool,.bool,.str,.int .i64,.int .i64,.sl 1,.sl 1,.sl 1,.sl 7,.sl 6,.sl 1,.bool,.sl 1,.sl 1,.sl 1,.sl 1,.sl 1,.sl 1,.sl 1,.bool]
abbrev J40:List Kd:=[.bool,.bool,.sl 6,.int .i64,.int .i64,.str,.int .i64,.int .i64,.sl 1,.sl 1,.sl 1,.sl 7,.sl 6,.sl 1,.bool,.sl 1,.sl 1,.sl 1,.sl 1,.sl 1,.sl 1,.sl 1,.bool]
def B12:List PCell:=[.var .str .pr false,.var (.int .i64) .pr false,.var (.int .i64) .pr false,.var (.sl 1) .ro true,.var (.sl 1) .ro true,.var (.sl 1) .ro true,.var (.sl 7) .ro true,.var (.sl 6) .ro true,.var (.sl 1) .ro true,.var .bool .pr false,.var (.sl 1) .ro true,.var (.sl 1) (.own true) false,.var (.sl 1) (.own true) false,.var (.sl 1) .ro false]
abbrev J41:List Kd:=[.bool,.str,.int .i64,.int .i64,.sl 1,.sl 1,.sl 1,.sl 7,.sl 6,.sl 1,.bool,.sl 1,.sl 1,.sl 1,.sl 1,.sl 1,.sl 1,.sl 1,.bool]
def B13:List PCell:=[.var (.sl 1) (.own true) false,.var (.sl 1) (.own true) false,.var (.sl 1) .ro false,.var .bool .pr false]
abbrev J42:List Kd:=[.str,.int .i64,.int .i64,.sl 1,.sl 1,.sl 1,.sl 7,.sl 6,.sl 1,.bool,.sl 1,.sl 1,.sl 1,.sl 1,.sl 1,.sl 1,.sl 1,.bool,.sl 1,.sl 1,.sl 1,.bool]
abbrev J43:List Kd:=[.bool,.int .i64,.int .i64,.str,.int .i64,.int .i64,.sl 1,.sl 1,.sl 1,.sl 7,.sl 6,.sl 1,.bool,.sl 1,.sl 1,.sl 1,.sl 1,.sl 1,.sl 1,.sl 1,.bool,.sl 1,.sl 1,.sl 1,.bool]
abbrev J44:List Kd:=[.bool,.str,.int .i64,.int .i64,.sl 1,.sl 1,.sl 1,.sl 7,.sl 6,.sl 1,.bool,.sl 1,.sl 1,.sl 1,.sl 1]
abbrev J45:List Kd:=[.bool,.sl 1,.sl 1,.sl 1,.str,.int .i64,.int .i64,.sl 1,.sl 1,.sl 1,.sl 7,.sl 6,.sl 1,.sl 1,.sl 1,.sl 1,.bool,.sl 1,.sl 1,.sl 1,.bool]
abbrev J46:List Kd:=[.bool,.sl 1,.sl 1,.sl 1,.int .i64,.str,.int .i64,.int .i64,.sl 1,.sl 1,.sl 1,.sl 7,.sl 6,.sl 1,.sl 1,.sl 1,.sl 1,.bool,.sl 1,.sl 1,.sl 1,.bool]
abbrev J47:List Kd:=[.sl 1,.sl 1,.sl 1,.bool]
abbrev J48:List Kd:=[.bool,.sl 1,.sl 1,.str,.int .i64,.int .i64,.sl 1,.sl 1,.sl 1,.sl 7,.sl 6,.sl 1,.sl 1,.sl 1,.sl 1,.bool,.sl 1,.sl 1,.sl 1,.bool]
abbrev J49:List Kd:=[.agg [.str,.int .i64,.int .i64,.sl 1,.sl 1,.sl 1,.sl 7,.sl 6,.sl 1],.bool,.sl 1,.sl 1]
abbrev J50:List Kd:=[.sl 1,.str,.int .i64]
abbrev J51:List Kd:=[.sl 1,.str]
abbrev J52:List Kd:=[.sl 7]
abbrev J53:List Kd:=[.int .i64,.str,.int .i64,.int .i64,.sl 1,.sl 1,.sl 1,.sl 7,.sl 6,.sl 1,.bool,.sl 1,.sl 1,.sl 1,.sl 1]
abbrev J54:List Kd:=[.sl 1,.str,.int .i64,.int .i64,.sl 1,.sl 1,.sl 1,.sl 7,.sl 6,.sl 1]
abbrev J55:List Kd:=[.sl 1,.sl 1,.int .i64,.str,.int .i64,.int .i64,.sl 1,.sl 1,.sl 1,.sl 7,.sl 6,.sl 1]
abbrev J56:List Kd:=[.agg [.int .i64,.int .i64,.int .i64,.str],.int .i64]
abbrev J57:List Kd:=[.sl 1,.int .i64,.int .i64,.sl 1,.int .i64,.str,.int .i64,.int .i64,.sl 1,.sl 1,.sl 1,.sl 7,.sl 6,.sl 1]
abbrev J58:List Kd:=[.sl 1,.int .i64,.int .i64,.sl 1,.int .i64,.any,.int .i64,.str,.int .i64,.int .i64,.sl 1,.sl 1,.sl 1,.sl 7,.sl 6,.sl 1]
abbrev J59:List Kd:=[.agg [.str,.int .i64,.int .i64,.sl 1,.sl 1,.sl 1,.sl 7,.sl 6,.sl 1],.sl 1,.int .i64,.int .i64]
abbrev J60:List Kd:=[.int .i64,.int .i64,.sl 4,.int .i64,.int .i64]
abbrev J61:List Kd:=[.sl 4,.int .i64]
abbrev J62:List Kd:=[.sl 4,.int .i64,.int .i64,.int .i64]
def B14:List PCell:=[.var (.int .i64) .pr false,.var (.int .i64) .pr false,.var (.int .i64) .pr false,.var .str .pr false]
abbrev J63:List Kd:=[.int .i64,.int .i64,.sl 1,.sl 1,.sl 4,.int .i64,.int .i64,.int .i64,.int .i64,.int .i64,.str]
abbrev J64:List Kd:=[.int .i64,.int .i64,.sl 1,.sl 1,.int .i64,.sl 4,.int .i64,.int .i64,.int .i64,.int .i64,.int .i64,.str]
abbrev J65:List Kd:=[.int .i64,.int .i64,.sl 1,.sl 1,.sl 4,.int .i64,.int .i64]
abbrev J66:List Kd:=[.sl 4]
abbrev J67:List Kd:=[.sl 4,.int .i64,.int .i64]
abbrev J68:List Kd:=[.int .i64,.int .i64,.str,.int .i64,.int .i64,.sl 1,.sl 1,.sl 1,.sl 7,.sl 6,.sl 1,.sl 1,.sl 1,.sl 1,.bool]
abbrev J69:List Kd:=[.agg [.int .i64,.sl 9,.sl 6,.sl 5,.sl 1,.sl 1],.agg [.int .i64,.int .i64,.int .i64,.int .i64,.sl 1,.sl 1],.int .i64]
abbrev J70:List Kd:=[.sl 3,.sl 1,.int .i64]
abbrev J71:List Kd:=[.sl 3]
def B15:List PCell:=[.var .str .pr false,.var (.int .i64) .pr false,.var (.int .i64) .pr false,.var (.sl 1) .ro true,.var (.sl 1) .ro true,.var (.sl 1) .ro true,.var (.sl 7) (.own true) false,.var (.sl 6) (.own true) false,.var (.sl 1) (.own true) false,.var (.sl 1) .ro true,.var (.sl 1) .ro true,.var (.sl 1) .ro true,.var (.sl 7) .ro true]
def B16:List PCell:=[.var (.int .i64) .pr false,.var .str .pr false,.var .any .ro false,.var .any .ro false,.var .any .ro false,.var .any .ro false,.var (.int .i64) .pr false]
abbrev J72:List Kd:=[.sl 7,.int .i64,.str,.int .i64,.int .i64,.sl 1,.sl 1,.sl 1,.sl 7,.sl 6,.sl 1,.sl 1,.sl 1,.sl 1,.sl 7,.int .i64,.str,.any,.any,.any,.any,.int .i64]
abbrev J73:List Kd:=[.sl 7,.int .i64,.int .i64,.int .i64,.str,.int .i64,.int .i64,.sl 1,.sl 1,.sl 1,.sl 7,.sl 6,.sl 1,.sl 1,.sl 1,.sl 1,.sl 7,.int .i64,.str,.any,.any,.any,.any,.int .i64]
abbrev J74:List Kd:=[.str,.int .i64,.int .i64,.sl 1,.sl 1,.sl 1,.sl 7,.sl 6,.sl 1,.sl 1,.sl 1,.sl 1,.sl 7]
abbrev J75:List Kd:=[.sl 7,.int .i64,.str,.int .i64,.int .i64,.sl 1,.sl 1,.sl 1,.sl 7,.sl 6,.sl 1,.sl 1,.sl 1,.sl 1,.sl 7]
abbrev J76:List Kd:=[.sl 7,.str,.int .i64,.int .i64,.sl 1,.sl 1,.sl 1,.sl 7,.sl 6,.sl 1,.sl 1,.sl 1,.sl 1,.sl 7]
abbrev J77:List Kd:=[.int .i64,.sl 1,.int .i64]
abbrev J78:List Kd:=[.str,.int .i64]
abbrev J79:List Kd:=[.sl 1,.sl 3,.int .i64,.sl 1,.int .i64]
abbrev J80:List Kd:=[.sl 1,.sl 3,.int .i64]
def B17:List PCell:=[.stat ⟨(.ptr 1 0),.pt,0,true⟩,.var (.sl 1) .ro true,.var (.sl 1) .ro true,.var (.sl 1) .ro true,.var (.sl 1) .ro true,.var (.int .i64) .pr false,.var (.sl 1) (.own true) false]
def B18:List PCell:=[.var (.int .i64) .pr false,.var .str .pr false,.var (.sl 8) (.own true) false,.var (.sl 8) (.own true) false,.var (.sl 5) (.own true) false,.var (.sl 7) (.own true) false,.var (.int .i64) .pr false]
abbrev J81:List Kd:=[.sl 1,.sl 1,.sl 1,.sl 1,.int .i64,.sl 1,.sl 1,.int .i64,.int .i64,.str,.sl 8,.sl 8,.sl 5,.sl 7,.int .i64,.int .i64,.str,.sl 8,.sl 8,.sl 5,.sl 7,.int .i64]
abbrev J82:List Kd:=[.int .i64,.int .i64,.sl 1,.sl 1,.sl 1,.sl 1,.int .i64,.sl 1,.sl 1,.int .i64,.int .i64,.str,.sl 8,.sl 8,.sl 5,.sl 7,.int .i64,.int .i64,.str,.sl 8,.sl 8,.sl 5,.sl 7,.int .i64]
abbrev J83:List Kd:=[.int .i64,.bool,.sl 1,.sl 1,.sl 1,.sl 1,.int .i64,.sl 1,.sl 1,.int .i64]
def B19:List PCell:=[.stat ⟨(.ptr 1 0),.pt,0,true⟩,.var (.sl 1) .ro true,.var (.sl 1) .ro true,.var (.sl 1) .ro true,.var (.sl 1) .ro true,.var (.int .i64) .pr false,.var (.sl 1) .ro true]
abbrev J84:List Kd:=[.int .i64,.sl 1,.sl 1,.sl 1,.sl 1,.int .i64,.sl 1,.sl 1,.int .i64,.int .i64,.str,.sl 8,.sl 8,.sl 5,.sl 7,.int .i64,.int .i64,.str,.sl 8,.sl 8,.sl 5,.sl 7,.int .i64]
abbrev J85:List Kd:=[.agg [.int .i64,.str,.sl 8,.sl 8,.sl 5,.sl 7,.int .i64],.sl 1,.sl 1,.sl 1,.sl 1,.int .i64,.sl 1,.sl 1,.int .i64]
abbrev J86:List Kd:=[.sl 1,.sl 1,.int .i64,.int .i64]
abbrev J87:List Kd:=[.agg [.int .i64,.int .i64,.int .i64,.str]]
abbrev J88:List Kd:=[.agg [.int .i64,.int .i64,.int .i64,.int .i64,.int .i64,.str],.str,.int .i64,.int .i64,.sl 1,.sl 1,.sl 1,.sl 7,.sl 6,.sl 1,.bool,.sl 1,.sl 1,.sl 1,.sl 1]
def B20:List PCell:=[.var .str .pr false,.var (.int .i64) .pr false,.var (.int .i64) .pr false,.var (.sl 1) .ro true,.var (.sl 1) .ro true,.var (.sl 1) .ro true,.var (.sl 7) .ro true,.var (.sl 6) .ro true,.var (.sl 1) .ro true,.var .bool .pr false,.var (.sl 1) .ro true,.var (.sl 1) .ro true,.var (.sl 1) (.own true) false,.var (.sl 1) .ro true]
def B21:List PCell:=[.var (.int .i64) .pr false,.var (.int .i64) .pr false,.var (.int .i64) .pr false,.var (.int .i64) .pr false,.var (.int .i64) .pr false,.var .str .pr false]
abbrev J89:List Kd:=[.str,.int .i64,.int .i64,.sl 1,.sl 1,.sl 1,.sl 7,.sl 6,.sl 1,.bool,.sl 1,.sl 1,.sl 1,.sl 1]
abbrev J90:List Kd:=[.sl 7,.int .i64,.int .i64,.str,.int .i64,.int .i64,.sl 1,.sl 1,.sl 1,.sl 7,.sl 6,.sl 1,.bool,.sl 1,.sl 1,.sl 1,.sl 1,.int .i64,.int .i64,.int .i64,.int .i64,.int .i64,.str]
abbrev J91:List Kd:=[.sl 1,.bool]
abbrev J92:List Kd:=[.agg [.str,.int .i64,.int .i64,.sl 1,.sl 1,.sl 1,.sl 7,.sl 6,.sl 1],.sl 1]
abbrev J93:List Kd:=[.sl 1,.sl 1,.int .i64,.int .i64,.str,.int .i64,.int .i64,.sl 1,.sl 1,.sl 1,.sl 7,.sl 6,.sl 1,.int .i64,.int .i64,.int .i64,.int .i64,.int .i64,.str]
def B22:List PCell:=[.var (.sl 7) .ro true,.var (.sl 1) .ro true,.var (.sl 1) (.own true) false,.var (.int .i64) .pr false]
abbrev J94:List Kd:=[.int .i64,.sl 1,.sl 7,.sl 1,.sl 1,.int .i64]
abbrev J95:List Kd:=[.int .i64,.sl 1,.sl 1,.int .i64,.int .i64,.sl 7,.sl 1,.sl 1,.int .i64]
abbrev J96:List Kd:=[.sl 7,.sl 1,.sl 1,.int .i64]
abbrev J97:List Kd:=[.int .i64,.sl 1,.int .i64,.int .i64,.sl 7,.sl 1,.sl 1,.int .i64]
abbrev J98:List Kd:=[.int .i64,.sl 7,.sl 1,.sl 1,.int .i64]
abbrev J99:List Kd:=[.sl 1,.sl 7,.sl 1,.sl 1,.int .i64]
abbrev J100:List Kd:=[.sl 1,.int .i64,.int .i64,.sl 7,.sl 1,.sl 1,.int .i64]
abbrev J101:List Kd:=[.sl 7,.sl 7,.int .i64,.int .i64]
abbrev J102:List Kd:=[.sl 7,.sl 7,.int .i64]
abbrev J103:List Kd:=[.sl 7,.str,.int .i64]
abbrev J104:List Kd:=[.sl 7,.str]
abbrev J105:List Kd:=[.sl 8,.str,.int .i64,.int .i64,.sl 1,.sl 1,.sl 1,.sl 7,.sl 6,.sl 1,.sl 1,.sl 1,.sl 1,.sl 7]
abbrev J106:List Kd:=[.sl 7,.int .i64,.int .i64,.int .i64,.int .i64]
abbrev J107:List Kd:=[.sl 7,.int .i64,.int .i64]
abbrev J108:List Kd:=[.agg [.int .i64,.int .i64,.str,.sl 5,.int .i64],.agg [.sl 1,.sl 1,.sl 1,.sl 7]]
def B23:List PCell:=[.var (.sl 1) .ro false,.var (.sl 1) .ro false,.var (.sl 1) .ro false,.var (.sl 1) .ro false]
abbrev J109:List Kd:=[.sl 8,.sl 1,.int .i64]
abbrev J110:List Kd:=[.int .i64,.sl 8,.int .i64,.sl 1,.int .i64,.sl 1,.sl 1,.sl 1,.sl 1]
abbrev J111:List Kd:=[.agg [.sl 1,.sl 1,.sl 1,.sl 1],.int .i64,.sl 1,.int .i64]
abbrev J112:List Kd:=[.sl 1,.str,.sl 1,.int .i64]
abbrev J113:List Kd:=[.sl 1,.str,.int .i64,.int .i64]
abbrev J114:List Kd:=[.sl 1,.bool,.int .i64,.int .i64]
abbrev J115:List Kd:=[.sl 1,.int .i64,.int .i64]
abbrev J116:List Kd:=[.sl 1,.int .i64]
abbrev J117:List Kd:=[.sl 7,.int .i64]
abbrev J118:List Kd:=[.agg [.int .i64,.int .i64,.int .i64,.int .i64,.int .i64,.int .i64,.str]]
abbrev J119:List Kd:=[.int .i64,.int .i64,.int .i64,.sl 7,.sl 1,.sl 1,.int .i64]
abbrev J120:List Kd:=[.int .i64,.int .i64,.sl 7,.sl 1,.sl 1,.int .i64]
def B24:List PCell:=[.var (.sl 7) .ro true,.var (.sl 1) .ro true,.var (.sl 1) (.own true) false]
abbrev J121:List Kd:=[.int .i64,.sl 1,.sl 7,.sl 1,.sl 1]
abbrev J122:List Kd:=[.int .i64,.sl 1,.int .i64,.sl 7,.sl 1,.sl 1]
abbrev J123:List Kd:=[.sl 7,.sl 1,.sl 1]
abbrev J124:List Kd:=[.int .i64,.sl 7,.sl 1,.sl 1]
abbrev J125:List Kd:=[.agg [.int .i64,.str,.sl 8,.sl 8,.sl 5,.sl 7,.int .i64]]
abbrev J126:List Kd:=[.sl 8,.agg [.sl 1,.sl 1,.sl 1,.sl 7]]
abbrev J127:List Kd:=[.sl 4,.agg [.int .i64,.int .i64,.str,.sl 5,.int .i64],.agg [.sl 1,.sl 1,.sl 1,.sl 7]]
abbrev J128:List Kd:=[.bool,.sl 7,.sl 1,.sl 1,.int .i64]
abbrev J129:List Kd:=[.int .i64,.int .i64,.sl 7,.sl 1,.sl 1]
abbrev J130:List Kd:=[.sl 1,.int .i64,.sl 7,.sl 1,.sl 1]
def B25:List PCell:=[.var (.sl 1) .ro false,.var (.sl 1) .ro false,.var (.sl 1) .ro false,.var (.sl 7) .ro false]
abbrev J131:List Kd:=[.sl 4,.sl 8,.int .i64,.sl 1,.sl 1,.sl 1,.sl 7]
abbrev J132:List Kd:=[.sl 4,.sl 8,.agg [.sl 1,.sl 1,.sl 1,.sl 7]]
abbrev J133:List Kd:=[.sl 7,.int .i64,.sl 1,.sl 7,.int .i64,.int .i64]
abbrev J134:List Kd:=[.int .i64,.sl 7]
abbrev J135:List Kd:=[.bool,.sl 7,.sl 1,.sl 1]
abbrev J136:List Kd:=[.sl 4,.agg [.int .i64,.str,.str,.sl 5,.int .i64,.sl 8,.sl 8,.int .i64],.agg [.sl 1,.sl 1,.sl 1,.sl 7]]
abbrev J137:List Kd:=[.sl 7,.int .i64,.sl 1,.int .i64]
abbrev J138:List Kd:=[.sl 4,.sl 5,.agg [.sl 1,.sl 1,.sl 1,.sl 7]]
abbrev J139:List Kd:=[.sl 1,.sl 1,.int .i64,.int .i64,.int .i64,.str,.int .i64,.int .i64,.sl 1,.sl 1,.sl 1,.sl 7,.sl 6,.sl 1]
abbrev J140:List Kd:=[.sl 1,.sl 1,.int .i64,.int .i64,.any,.int .i64,.int .i64,.int .i64,.str,.int .i64,.int .i64,.sl 1,.sl 1,.sl 1,.sl 7,.sl 6,.sl 1]
def B26:List PCell:=[.var .str .pr false,.var (.int .i64) .pr false,.var (.int .i64) .pr false,.var (.sl 1) .ro true,.var (.sl 1) .ro true,.var (.sl 1) .ro true,.var (.sl 7) .ro true,.var (.sl 6) .ro true,.var (.sl 1) .ro true]
def B27:List PCell:=[.var (.sl 1) .ro true,.var (.sl 1) .ro true,.var (.sl 1) .ro true,.var .bool .pr false]
abbrev J141:List Kd:=[.sl 1,.int .i64,.str,.int .i64,.int .i64,.sl 1,.sl 1,.sl 1,.sl 7,.sl 6,.sl 1,.sl 1,.sl 1,.sl 1,.bool]
abbrev J142:List Kd:=[.int .i64,.sl 1,.sl 5,.int .i64,.int .i64,.int .i64,.str,.int .i64,.int .i64,.sl 1,.sl 1,.sl 1,.sl 7,.sl 6,.sl 1,.sl 1,.sl 1,.sl 1,.bool]
abbrev J143:List Kd:=[.agg [.int .i64,.sl 9,.sl 6,.sl 5,.sl 1,.sl 1],.int .i64,.int .i64,.str,.int .i64,.int .i64,.sl 1,.sl 1,.sl 1,.sl 7,.sl 6,.sl 1,.sl 1,.sl 1,.sl 1,.bool]
abbrev J144:List Kd:=[.sl 1,.int .i64,.sl 7]
abbrev J145:List Kd:=[.sl 1,.int .i64,.int .i64,.sl 7]
abbrev J146:List Kd:=[.sl 1,.sl 7]
abbrev J147:List Kd:=[.sl 1,.sl 1,.int .i64,.int .i64,.str,.int .i64,.int .i64,.sl 1,.sl 1,.sl 1,.sl 7,.sl 6,.sl 1]
abbrev J148:List Kd:=[.sl 1,.sl 1,.int .i64,.int .i64,.any,.int .i64,.int .i64,.str,.int .i64,.int .i64,.sl 1,.sl 1,.sl 1,.sl 7,.sl 6,.sl 1]
set_option maxHeartbeats 4000000
def f94{R:Type}(G:ORC R)(k:Nat)(a:LV)(b:Int)(K:LV→OV R):OV R:=
 (bif(decide (b≥0))then(K [.bool (decide (b<(a.length:Int)))])else(K [.bool false]))
abbrev g94 {R:Type} (G:ORC R) (k:Nat):LV→(LV→OV R)→OV R:=gF J117 (f94 G k)
theorem s94{R:Type}{G:ORC R}{k:Nat}(hG:Sound Tryz.prog TAB G):TL 94 (g94 G k):=
 gG J117 (by kernel_rfl) (callF_sound (L:=fun _ _ _=>none) (f:=94) TAB_chk MO hG Tryz.func94 (sg:=S94) (by kernel_rfl) (by kernel_rfl) (las [] (by kernel_rfl) trivial))
def f76{R:Type}(G:ORC R)(k:Nat)(a:LV)(b c:Int)(K:LV→OV R):OV R:=
 (G 94 [.sl 7 a,.int .i64 b] fun d=>uB d fun d e=>unNil e (bif d then(G 94 [.sl 7 a,.int .i64 c] fun d=>uB d fun d e=>unNil e (bif d then(bif(decide (b≥c))then(bif((decide (0≤c))&&(decide (c<(a.length:Int))))then(nthK a (Int.toNat c) fun a=>ca7 a fun a c d e a c f=>aI .i64 d fun a=>K [.bool (decide (b≤a))])else none)else(K [.bool false]))else(K [.bool false])))else(K [.bool false])))
abbrev g76 {R:Type} (G:ORC R) (k:Nat):LV→(LV→OV R)→OV R:=gF J107 (f76 G k)
theorem s76{R:Type}{G:ORC R}{k:Nat}(hG:Sound Tryz.prog TAB G):TL 76 (g76 G k):=
 gG J107 (by kernel_rfl) (callF_sound (L:=fun _ _ _=>none) (f:=76) TAB_chk MO hG Tryz.func76 (sg:=S76) (by kernel_rfl) (by kernel_rfl) (las [] (by kernel_rfl) trivial))
def P55_0h:Pat:={tmps:=unds [pU,pU,pU,.var (.sl 1) (.own true),pU,pU,pL,pI,pI] 11 [],boxes:=nons [] 20 []}
def P55_0x:Pat:={tmps:=unds [pU,pU,pU,.var (.sl 1) (.own true)] 16 [],boxes:=nons [] 20 []}
def b55_0{R:Type}(G:ORC R)(k:Nat)(X:Cu R J86)(Ko:Cu R J4)(a b:LV)(c d:Int):OV R:=
 (bif(decide (d<c))then(bif((decide (0≤d))&&(decide (d<(b.length:Int))))then(nthK b (Int.toNat d) fun e=>V.asBool e fun e=>bif e then(bif(decide (List.length a+1≤1073741824))then(X (a++[.int .i64 d]) b c (IntKind.i64.wrap (d+1)))else none)else(X a b c (IntKind.i64.wrap (d+1))))else none)else(Ko a))
def l55_0g{R:Type}(G:ORC R)(k:Nat)(Ko:Cu R J4)(j:Nat):Cu R J86:=lup J86 (fun X=>b55_0 G k X Ko) j
def l55_0{R:Type}(G:ORC R)(k:Nat)(a b:LV)(c d:Int)(Ko:Cu R J4):OV R:=l55_0g G k Ko k a b c d
def L55{R:Type}(G:ORC R)(k:Nat):Nat→St→(Ex→St→OV R)→OV R
 |0,S,K=>P55_0h.mat S fun vs=>uc J86 (l55_0g G k (koX J4 P55_0x K) k) vs none
 |_,_,_=>none
def f55{R:Type}(G:ORC R)(k:Nat)(a:LV)(K:LV→OV R):OV R:=
 (l55_0 G k [] a (a.length:Int) 0 (fun a=>K [.sl 1 a]))
abbrev g55 {R:Type} (G:ORC R) (k:Nat):LV→(LV→OV R)→OV R:=gF J4 (f55 G k)
theorem s55{R:Type}{G:ORC R}{k:Nat}(hG:Sound Tryz.prog TAB G):TL 55 (g55 G k):=
 gG J4 (by kernel_rfl) (callF_sound (L:=L55 G k) (f:=55) TAB_chk MO hG Tryz.func55 (sg:=S55) (by kernel_rfl) (by kernel_rfl) (las [0] (by kernel_rfl) ⟨loopIs J86 k (fun K X=>b55_0 G k X (koX J4 P55_0x K)) P55_0h P55_0x default (by kernel_rfl) (by kernel_rfl) (by kernel_rfl) (fun K X=>by kernel_rfl) (fun S K=>by kernel_rfl),trivial⟩))
def f30{R:Type}(G:ORC R)(k:Nat)(a:Int)(b:ByteArray)(c d:Int)(e f g h e f:LV)(e:Bool)(f g h i:LV)(K:LV→OV R):OV R:=
 (bif(decide (a≥0))then(bif(decide (a<(h.length:Int)))then(bif((decide (0≤a))&&(decide (a<(h.length:Int))))then(nthK h (Int.toNat a) fun f=>K [.str b,.int .i64 c,.int .i64 d,.bool e,.sl 1 (List.set h (Int.toNat a) (.bool true))])else none)else(K [.str b,.int .i64 c,.int .i64 d,.bool e,.sl 1 h]))else(K [.str b,.int .i64 c,.int .i64 d,.bool e,.sl 1 h]))
abbrev g30 {R:Type} (G:ORC R) (k:Nat):LV→(LV→OV R)→OV R:=gF J53 (f30 G k)
theorem s30{R:Type}{G:ORC R}{k:Nat}(hG:Sound Tryz.prog TAB G):TL 30 (g30 G k):=
 gG J53 (by kernel_rfl) (callF_sound (L:=fun _ _ _=>none) (f:=30) TAB_chk MO hG Tryz.func30 (sg:=S30) (by kernel_rfl) (by kernel_rfl) (las [] (by kernel_rfl) trivial))
def P59_0h:Pat:={tmps:=unds [pS 0,pU,pU,pS 4] 10 (unds [.var (.sl 7) .ro,pI,pI] 28 []),boxes:=nons [some B20,none,none,none,some B21] 41 []}
def P59_0x:Pat:={tmps:=unds [] 45 [],boxes:=nons [some B20] 45 []}
def b59_0{R:Type}(G:ORC R)(k:Nat)(X:Cu R J90)(Ko:Cu R J89)(a:LV)(b c:Int)(d:ByteArray)(e f:Int)(g h i l m n:LV)(o:Bool)(p q r s:LV)(t u v w x:Int)(y:ByteArray):OV R:=
 (bif(decide (c<b))then(bif((decide (0≤c))&&(decide (c<(a.length:Int))))then(nthK a (Int.toNat c) fun z=>V.asAgg z fun z=>ce7 z fun z A B C D E F=>aI .i64 z fun z=>aI .i64 A fun z=>aI .i64 B fun z=>aI .i64 C fun z=>aI .i64 D fun z=>aI .i64 E fun A=>V.asStr F fun B=>bif(c !=v)then(G 76 [.sl 7 l,.int .i64 c,.int .i64 v] fun B=>uB B fun B C=>unNil C (bif B then(G 30 [.int .i64 z,.str d,.int .i64 e,.int .i64 f,.sl 1 g,.sl 1 h,.sl 1 i,.sl 7 l,.sl 6 m,.sl 1 n,.bool o,.sl 1 p,.sl 1 q,.sl 1 r,.sl 1 s] fun z=>uS z fun z B=>uI .i64 B fun B C=>uI .i64 C fun C D=>uB D fun D E=>uL 1 E fun E F=>unNil F (G 30 [.int .i64 A,.str z,.int .i64 B,.int .i64 C,.sl 1 g,.sl 1 h,.sl 1 i,.sl 7 l,.sl 6 m,.sl 1 n,.bool D,.sl 1 p,.sl 1 q,.sl 1 E,.sl 1 s] fun z=>uS z fun z A=>uI .i64 A fun A B=>uI .i64 B fun B C=>uB C fun C D=>uL 1 D fun D E=>unNil E (X a b (IntKind.i64.wrap (c+1)) z A B g h i l m n C p q D s t u v w x y)))else(X a b (IntKind.i64.wrap (c+1)) d e f g h i l m n o p q r s t u v w x y)))else(X a b (IntKind.i64.wrap (c+1)) d e f g h i l m n o p q r s t u v w x y))else none)else(Ko d e f g h i l m n o p q r s))
def l59_0g{R:Type}(G:ORC R)(k:Nat)(Ko:Cu R J89)(j:Nat):Cu R J90:=lup J90 (fun X=>b59_0 G k X Ko) j
def l59_0{R:Type}(G:ORC R)(k:Nat)(a:LV)(b c:Int)(d:ByteArray)(e f:Int)(g h i l m n:LV)(o:Bool)(p q r s:LV)(t u v w x:Int)(y:ByteArray)(Ko:Cu R J89):OV R:=l59_0g G k Ko k a b c d e f g h i l m n o p q r s t u v w x y
def L59{R:Type}(G:ORC R)(k:Nat):Nat→St→(Ex→St→OV R)→OV R
 |0,S,K=>P59_0h.mat S fun vs=>uc J90 (l59_0g G k (koX J89 P59_0x K) k) vs none
 |_,_,_=>none
def f59{R:Type}(G:ORC R)(k:Nat)(a b c d e:Int)(f g:ByteArray)(h i:Int)(l m n o p q:LV)(r:Bool)(s t u v:LV)(K:LV→OV R):OV R:=
 (G 30 [.int .i64 e,.str g,.int .i64 h,.int .i64 i,.sl 1 l,.sl 1 m,.sl 1 n,.sl 7 o,.sl 6 p,.sl 1 q,.bool r,.sl 1 s,.sl 1 t,.sl 1 u,.sl 1 v] fun g=>uS g fun g h=>uI .i64 h fun h i=>uI .i64 i fun i r=>uB r fun r u=>uL 1 u fun u w=>unNil w (l59_0 G k o (o.length:Int) 0 g h i l m n o p q r s t u v a b c d e f (fun a b c d e f g d e f g d e h=>K [.str a,.int .i64 b,.int .i64 c,.bool f,.sl 1 e])))
abbrev g59 {R:Type} (G:ORC R) (k:Nat):LV→(LV→OV R)→OV R:=gF J88 (f59 G k)
theorem s59{R:Type}{G:ORC R}{k:Nat}(hG:Sound Tryz.prog TAB G):TL 59 (g59 G k):=
 gG J88 (by kernel_rfl) (callF_sound (L:=L59 G k) (f:=59) TAB_chk MO hG Tryz.func59 (sg:=S59) (by kernel_rfl) (by kernel_rfl) (las [0] (by kernel_rfl) ⟨loopIs J90 k (fun K X=>b59_0 G k X (koX J89 P59_0x K)) P59_0h P59_0x default (by kernel_rfl) (by kernel_rfl) (by kernel_rfl) (fun K X=>by kernel_rfl) (fun S K=>by kernel_rfl),trivial⟩))
def P75_0h:Pat:={tmps:=unds [pL,.var .str .pr] 5 (unds [pI,pI] 10 []),boxes:=nons [] 19 []}
def P75_0x:Pat:={tmps:=unds [] 19 [],boxes:=nons [] 19 []}
def P75_0r:Pat:={tmps:=unds [pU,pU,pU,pU,pI] 14 [],boxes:=nons [] 19 []}
def b75_0{R:Type}(G:ORC R)(k:Nat)(X:Cu R J113)(Ko:Cu R J3)(Kr:Cu R J5)(a:LV)(b:ByteArray)(c d:Int):OV R:=
 (bif(decide (d<c))then(bif((decide (0≤d))&&(decide (d<(a.length:Int))))then(nthK a (Int.toNat d) fun e=>V.asStr e fun e=>bif(ByteArray.toList b==ByteArray.toList e)then(Kr d)else(X a b c (IntKind.i64.wrap (d+1))))else none)else(Ko ()))
def l75_0g{R:Type}(G:ORC R)(k:Nat)(Ko:Cu R J3)(Kr:Cu R J5)(j:Nat):Cu R J113:=lup J113 (fun X=>b75_0 G k X Ko Kr) j
def l75_0{R:Type}(G:ORC R)(k:Nat)(a:LV)(b:ByteArray)(c d:Int)(Ko:Cu R J3)(Kr:Cu R J5):OV R:=l75_0g G k Ko Kr k a b c d
def L75{R:Type}(G:ORC R)(k:Nat):Nat→St→(Ex→St→OV R)→OV R
 |0,S,K=>P75_0h.mat S fun vs=>uc J113 (l75_0g G k (koX J3 P75_0x K) (koR J5 P75_0r K) k) vs none
 |_,_,_=>none
def f75{R:Type}(G:ORC R)(k:Nat)(a:LV)(b:ByteArray)(K:LV→OV R):OV R:=
 (l75_0 G k a b (a.length:Int) 0 (fun(_:Unit)=>K [.int .i64 (-1)]) (fun a=>K [.int .i64 a]))
abbrev g75 {R:Type} (G:ORC R) (k:Nat):LV→(LV→OV R)→OV R:=gF J51 (f75 G k)
theorem s75{R:Type}{G:ORC R}{k:Nat}(hG:Sound Tryz.prog TAB G):TL 75 (g75 G k):=
 gG J51 (by kernel_rfl) (callF_sound (L:=L75 G k) (f:=75) TAB_chk MO hG Tryz.func75 (sg:=S75) (by kernel_rfl) (by kernel_rfl) (las [0] (by kernel_rfl) ⟨loopIs J113 k (fun K X=>b75_0 G k X (koX J3 P75_0x K) (koR J5 P75_0r K)) P75_0h P75_0x P75_0r (by kernel_rfl) (by kernel_rfl) (by kernel_rfl) (fun K X=>by kernel_rfl) (fun S K=>by kernel_rfl),trivial⟩))
def f58{R:Type}(G:ORC R)(k:Nat)(a:LV)(b:ByteArray)(K:LV→OV R):OV R:=
 (G 75 [.sl 1 a,.str b] fun a=>uI .i64 a fun a b=>unNil b (K [.bool (decide (a≥0))]))
abbrev g58 {R:Type} (G:ORC R) (k:Nat):LV→(LV→OV R)→OV R:=gF J51 (f58 G k)
theorem s58{R:Type}{G:ORC R}{k:Nat}(hG:Sound Tryz.prog TAB G):TL 58 (g58 G k):=
 gG J51 (by kernel_rfl) (callF_sound (L:=fun _ _ _=>none) (f:=58) TAB_chk MO hG Tryz.func58 (sg:=S58) (by kernel_rfl) (by kernel_rfl) (las [] (by kernel_rfl) trivial))
def f56{R:Type}(G:ORC R)(k:Nat)(a b c:Int)(b:ByteArray)(K:LV→OV R):OV R:=
 (K [.bool (a==19)])
abbrev g56 {R:Type} (G:ORC R) (k:Nat):LV→(LV→OV R)→OV R:=gF J87 (f56 G k)
theorem s56{R:Type}{G:ORC R}{k:Nat}(hG:Sound Tryz.prog TAB G):TL 56 (g56 G k):=
 gG J87 (by kernel_rfl) (callF_sound (L:=fun _ _ _=>none) (f:=56) TAB_chk MO hG Tryz.func56 (sg:=S56) (by kernel_rfl) (by kernel_rfl) (las [] (by kernel_rfl) trivial))
def P131105_2h:Pat:={tmps:=unds [pU,pU,.stat (.one (.fn 56 []) .pt),pS 3,pU,pU,pU,.var (.sl 1) (.own true),pU,pU,pU,pU,pL,pI,pI] 7 (unds [.var .any .ro,pI,pI] 21 []),boxes:=nons [none,none,none,some B0] 42 []}
def P131105_2x:Pat:={tmps:=unds [pU,pU,.stat (.one (.fn 56 []) .pt),pS 3,pU,pU,pU,.var (.sl 1) (.own true),pU,pU,pU,pU,pL,pI,pI] 31 [],boxes:=nons [none,none,none,some B0] 42 []}
def P131105_0h:Pat:={tmps:=unds [pU,pU,.stat (.one (.fn 56 []) .pt),pS 3,pU,pU,pU,.var (.sl 1) (.own true),pU,pU,pU,pU,pL,pI,pI] 31 [],boxes:=nons [none,none,none,some B0] 42 []}
def P131105_0x:Pat:={tmps:=unds [] 7 (unds [.var (.sl 1) (.own true)] 38 []),boxes:=nons [] 46 []}
def b131105_2{R:Type}(G:ORC R)(k:Nat)(X:Cu R J148)(Ko:Cu R J147)(a b:LV)(c d:Int)(e:V)(f g:Int)(h:ByteArray)(i l:Int)(m n o p q r:LV):OV R:=
 (bif(decide (g<f))then(V.asSl e fun s t=>bif(((s==4)&&(decide (0≤g)))&&(decide (g<(t.length:Int))))then(nthK t (Int.toNat g) fun s=>V.asAgg s fun s=>ce4 s fun s t u v=>aI .i64 s fun s=>aI .i64 t fun t=>aI .i64 u fun u=>V.asStr v fun v=>G 56 [.agg [.int .i64 s,.int .i64 t,.int .i64 u,.str v]] fun s=>uB s fun s t=>unNil t (bif s then(G 58 [.sl 1 a,.str v] fun s=>uB s fun s t=>unNil t (bif(!s)then(bif(decide (List.length a+1≤1073741824))then(X (a++[.str v]) b c d e f (IntKind.i64.wrap (g+1)) h i l m n o p q r)else none)else(X a b c d e f (IntKind.i64.wrap (g+1)) h i l m n o p q r)))else(X a b c d e f (IntKind.i64.wrap (g+1)) h i l m n o p q r)))else none)else(Ko a b c d h i l m n o p q r))
def l131105_2g{R:Type}(G:ORC R)(k:Nat)(Ko:Cu R J147)(j:Nat):Cu R J148:=lup J148 (fun X=>b131105_2 G k X Ko) j
def l131105_2{R:Type}(G:ORC R)(k:Nat)(a b:LV)(c d:Int)(e:V)(f g:Int)(h:ByteArray)(i l:Int)(m n o p q r:LV)(Ko:Cu R J147):OV R:=l131105_2g G k Ko k a b c d e f g h i l m n o p q r
def b131105_0{R:Type}(G:ORC R)(k:Nat)(X:Cu R J147)(Ko:Cu R J4)(a b:LV)(c d:Int)(e:ByteArray)(f g:Int)(h i l m n o:LV):OV R:=
 (bif(decide (d<c))then(bif((decide (0≤d))&&(decide (d<(b.length:Int))))then(nthK b (Int.toNat d) fun p=>aI .i64 p fun p=>bif((decide (0≤p))&&(decide (p<(o.length:Int))))then(nthK o (Int.toNat p) fun p=>V.asSl p fun p q=>l131105_2 G k a b c d (.sl p q) (q.length:Int) 0 e f g h i l m n o (fun b c d e f g h i l m n o p=>X b c d (IntKind.i64.wrap (e+1)) f g h i l m n o p))else none)else none)else(Ko a))
def l131105_0g{R:Type}(G:ORC R)(k:Nat)(Ko:Cu R J4)(j:Nat):Cu R J147:=lup J147 (fun X=>b131105_0 G k X Ko) j
def l131105_0{R:Type}(G:ORC R)(k:Nat)(a b:LV)(c d:Int)(e:ByteArray)(f g:Int)(h i l m n o:LV)(Ko:Cu R J4):OV R:=l131105_0g G k Ko k a b c d e f g h i l m n o
def L131105{R:Type}(G:ORC R)(k:Nat):Nat→St→(Ex→St→OV R)→OV R
 |2,S,K=>P131105_2h.mat S fun vs=>uc J148 (l131105_2g G k (koX J147 P131105_2x K) k) vs none
 |0,S,K=>P131105_0h.mat S fun vs=>uc J147 (l131105_0g G k (koX J4 P131105_0x K) k) vs none
 |_,_,_=>none
def f131105{R:Type}(G:ORC R)(k:Nat)(a:ByteArray)(b c:Int)(d e f g h i l:LV)(K:LV→OV R):OV R:=
 (l131105_0 G k [] l (l.length:Int) 0 a b c d e f g h i (fun a=>K [.sl 1 a]))
abbrev g131105 {R:Type} (G:ORC R) (k:Nat):LV→(LV→OV R)→OV R:=gF J92 (f131105 G k)
theorem s131105{R:Type}{G:ORC R}{k:Nat}(hG:Sound Tryz.prog TAB G):TL 131105 (g131105 G k):=
 gG J92 (by kernel_rfl) (callF_sound (L:=L131105 G k) (f:=131105) TAB_chk MO hG Tryz.func33 (sg:=S131105) (by kernel_rfl) (by kernel_rfl) (las [0,2] (by kernel_rfl) ⟨loopIs J147 k (fun K X=>b131105_0 G k X (koX J4 P131105_0x K)) P131105_0h P131105_0x default (by kernel_rfl) (by kernel_rfl) (by kernel_rfl) (fun K X=>by kernel_rfl) (fun S K=>by kernel_rfl),loopIs J148 k (fun K X=>b131105_2 G k X (koX J147 P131105_2x K)) P131105_2h P131105_2x default (by kernel_rfl) (by kernel_rfl) (by kernel_rfl) (fun K X=>by kernel_rfl) (fun S K=>by kernel_rfl),trivial⟩))
def f57{R:Type}(G:ORC R)(k:Nat)(a b c d a:Int)(a b:ByteArray)(c d:Int)(e f g h e f:LV)(e:Bool)(f g h i:LV)(K:LV→OV R):OV R:=
 (bif(ByteArray.toList a==ByteArray.toList ⟨#[]⟩)then(K [.bool true,.str b,.int .i64 c,.int .i64 d,.bool e])else(bif(ByteArray.toList a==ByteArray.toList ⟨#[101,114,114,111,114]⟩)then(K [.bool true,.str b,.int .i64 c,.int .i64 d,.bool e])else(G 58 [.sl 1 i,.str a] fun a=>uB a fun a f=>unNil f (K [.bool a,.str b,.int .i64 c,.int .i64 d,.bool e]))))
abbrev g57 {R:Type} (G:ORC R) (k:Nat):LV→(LV→OV R)→OV R:=gF J88 (f57 G k)
theorem s57{R:Type}{G:ORC R}{k:Nat}(hG:Sound Tryz.prog TAB G):TL 57 (g57 G k):=
 gG J88 (by kernel_rfl) (callF_sound (L:=fun _ _ _=>none) (f:=57) TAB_chk MO hG Tryz.func57 (sg:=S57) (by kernel_rfl) (by kernel_rfl) (las [] (by kernel_rfl) trivial))
def P26_2h:Pat:={tmps:=unds [pS 0,.var .bool .pr,pU,pU,pS 5,.var .bool .pr] 23 (unds [.var (.sl 6) .ro,pI,pI] 93 []),boxes:=nons [some B11,none,none,none,none,some B1] 120 []}
def P26_2x:Pat:={tmps:=unds [pS 0,.var .bool .pr,pU,pU,pS 5,.var .bool .pr] 119 [],boxes:=nons [some B11,none,none,none,none,some B1] 120 []}
def P26_0h:Pat:={tmps:=unds [pS 0,.var .bool .pr,pU,pU,pS 5,.var .bool .pr] 119 [],boxes:=nons [some B12,none,none,none,none,some B1] 120 []}
def P26_0x:Pat:={tmps:=unds [pS 0,.var .bool .pr,pU,pU,pS 5] 120 [],boxes:=nons [some B12,none,none,none,none,some B1] 120 []}
def P26_4h:Pat:={tmps:=unds [pS 0,.var .bool .pr,pU,pU,pS 5,pU,pU,pU,pS 9] 89 (unds [.stat (.ref (.b 9 0) 0),pI,pI] 24 []),boxes:=nons [some B12,none,none,none,none,some B1,none,none,none,some B13] 116 []}
def P26_4x:Pat:={tmps:=unds [pU,pU,pU,pU,pS 5,pU,pU,pU,pS 9] 116 [],boxes:=nons [some B12,none,none,none,none,some B1,none,none,none,some B13] 116 []}
def b26_2{R:Type}(G:ORC R)(k:Nat)(X:Cu R J40)(Ko:Cu R J39)(a b:Bool)(c:LV)(d e:Int)(f:ByteArray)(g h:Int)(i l m n o p:LV)(q:Bool)(r s t u v w x:LV)(y:Bool):OV R:=
 (bif(decide (e<d))then(bif((decide (0≤e))&&(decide (e<(c.length:Int))))then(nthK c (Int.toNat e) fun z=>V.asAgg z fun z=>ce6 z fun z A B C D E=>aI .i64 z fun z=>aI .i64 A fun A=>aI .i64 B fun B=>aI .i64 C fun C=>aI .i64 D fun D=>V.asStr E fun E=>bif((decide (0≤e))&&(decide (e<(s.length:Int))))then(nthK s (Int.toNat e) fun F=>V.asBool F fun F=>bif(!F)then(bif q then(bif((decide (0≤e))&&(decide (e<(s.length:Int))))then(nthK s (Int.toNat e) fun F=>G 59 [.agg [.int .i64 z,.int .i64 A,.int .i64 B,.int .i64 C,.int .i64 D,.str E],.str f,.int .i64 g,.int .i64 h,.sl 1 i,.sl 1 l,.sl 1 m,.sl 7 n,.sl 6 o,.sl 1 p,.bool q,.sl 1 r,.sl 1 (List.set s (Int.toNat e) (.bool true)),.sl 1 t,.sl 1 u] fun F=>uS F fun F H=>uI .i64 H fun H I=>uI .i64 I fun I J=>uB J fun J L=>uL 1 L fun L M=>unNil M (X a true c d (IntKind.i64.wrap (e+1)) F H I i l m n o p J r (List.set s (Int.toNat e) (.bool true)) L u v w x y))else none)else(G 57 [.agg [.int .i64 z,.int .i64 A,.int .i64 B,.int .i64 C,.int .i64 D,.str E],.str f,.int .i64 g,.int .i64 h,.sl 1 i,.sl 1 l,.sl 1 m,.sl 7 n,.sl 6 o,.sl 1 p,.bool q,.sl 1 r,.sl 1 s,.sl 1 t,.sl 1 u] fun F=>uB F fun F H=>uS H fun H I=>uI .i64 I fun I J=>uI .i64 J fun J L=>uB L fun L M=>unNil M (bif F then(bif((decide (0≤e))&&(decide (e<(s.length:Int))))then(nthK s (Int.toNat e) fun F=>G 59 [.agg [.int .i64 z,.int .i64 A,.int .i64 B,.int .i64 C,.int .i64 D,.str E],.str H,.int .i64 I,.int .i64 J,.sl 1 i,.sl 1 l,.sl 1 m,.sl 7 n,.sl 6 o,.sl 1 p,.bool L,.sl 1 r,.sl 1 (List.set s (Int.toNat e) (.bool true)),.sl 1 t,.sl 1 u] fun F=>uS F fun F M=>uI .i64 M fun M N=>uI .i64 N fun N O=>uB O fun O P=>uL 1 P fun P Q=>unNil Q (X a true c d (IntKind.i64.wrap (e+1)) F M N i l m n o p O r (List.set s (Int.toNat e) (.bool true)) P u v w x y))else none)else(G 58 [.sl 1 r,.str E] fun F=>uB F fun F M=>unNil M (bif F then(bif((decide (0≤e))&&(decide (e<(s.length:Int))))then(nthK s (Int.toNat e) fun F=>G 59 [.agg [.int .i64 z,.int .i64 A,.int .i64 B,.int .i64 C,.int .i64 D,.str E],.str H,.int .i64 I,.int .i64 J,.sl 1 i,.sl 1 l,.sl 1 m,.sl 7 n,.sl 6 o,.sl 1 p,.bool L,.sl 1 r,.sl 1 (List.set s (Int.toNat e) (.bool true)),.sl 1 t,.sl 1 u] fun z=>uS z fun z A=>uI .i64 A fun A B=>uI .i64 B fun B C=>uB C fun C D=>uL 1 D fun D E=>unNil E (X a true c d (IntKind.i64.wrap (e+1)) z A B i l m n o p C r (List.set s (Int.toNat e) (.bool true)) D u v w x y))else none)else(X a b c d (IntKind.i64.wrap (e+1)) H I J i l m n o p L r s t u v w x y))))))else(X a b c d (IntKind.i64.wrap (e+1)) f g h i l m n o p q r s t u v w x y))else none)else none)else(Ko a b f g h i l m n o p q r s t u v w x y))
def l26_2g{R:Type}(G:ORC R)(k:Nat)(Ko:Cu R J39)(j:Nat):Cu R J40:=lup J40 (fun X=>b26_2 G k X Ko) j
def l26_2{R:Type}(G:ORC R)(k:Nat)(a b:Bool)(c:LV)(d e:Int)(f:ByteArray)(g h:Int)(i l m n o p:LV)(q:Bool)(r s t u v w x:LV)(y:Bool)(Ko:Cu R J39):OV R:=l26_2g G k Ko k a b c d e f g h i l m n o p q r s t u v w x y
def b26_0{R:Type}(G:ORC R)(k:Nat)(X:Cu R J39)(Ko:Cu R J41)(a b:Bool)(c:ByteArray)(d e:Int)(f g h i l m:LV)(n:Bool)(o p q r s t u:LV)(v:Bool):OV R:=
 (bif b then(G 55 [.sl 1 q] fun b=>uL 1 b fun b w=>unNil w (G 131105 [.agg [.str c,.int .i64 d,.int .i64 e,.sl 1 f,.sl 1 g,.sl 1 h,.sl 7 i,.sl 6 l,.sl 1 m],.sl 1 b] fun b=>uL 1 b fun b w=>unNil w (l26_2 G k a false l (l.length:Int) 0 c d e f g h i l m n o p q b s t u v (fun b w x y z A B C D E F H I J L M N O P Q=>X b w x y z A B C D E F H I J L M N O P Q))))else(Ko a c d e f g h i l m n o p q r s t u v))
def l26_0g{R:Type}(G:ORC R)(k:Nat)(Ko:Cu R J41)(j:Nat):Cu R J39:=lup J39 (fun X=>b26_0 G k X Ko) j
def l26_0{R:Type}(G:ORC R)(k:Nat)(a b:Bool)(c:ByteArray)(d e:Int)(f g h i l m:LV)(n:Bool)(o p q r s t u:LV)(v:Bool)(Ko:Cu R J41):OV R:=l26_0g G k Ko k a b c d e f g h i l m n o p q r s t u v
def b26_4{R:Type}(G:ORC R)(k:Nat)(X:Cu R J43)(Ko:Cu R J42)(a:Bool)(b c:Int)(d:ByteArray)(e f:Int)(g h i l m n:LV)(o:Bool)(p q r s t u v:LV)(w:Bool)(x y z:LV)(A:Bool):OV R:=
 (bif(decide (c<b))then(bif((decide (0≤c))&&(decide (c<(x.length:Int))))then(nthK x (Int.toNat c) fun B=>aI .i64 B fun B=>bif A then(X a b (IntKind.i64.wrap (c+1)) d e f g h i l m n o p q r s t u v w x y z true)else(bif(!a)then(bif((decide (0≤B))&&(decide (B<(m.length:Int))))then(nthK m (Int.toNat B) fun B=>V.asAgg B fun B=>G 57 [.agg B,.str d,.int .i64 e,.int .i64 f,.sl 1 g,.sl 1 h,.sl 1 i,.sl 7 l,.sl 6 m,.sl 1 n,.bool o,.sl 1 p,.sl 1 q,.sl 1 r,.sl 1 s] fun B=>uB B fun B C=>uS C fun C D=>uI .i64 D fun D E=>uI .i64 E fun E F=>uB F fun F H=>unNil H (X a b (IntKind.i64.wrap (c+1)) C D E g h i l m n F p q r s t u v w x y z B))else none)else(X a b (IntKind.i64.wrap (c+1)) d e f g h i l m n o p q r s t u v w x y z false)))else none)else(Ko d e f g h i l m n o p q r s t u v w x y z A))
def l26_4g{R:Type}(G:ORC R)(k:Nat)(Ko:Cu R J42)(j:Nat):Cu R J43:=lup J43 (fun X=>b26_4 G k X Ko) j
def l26_4{R:Type}(G:ORC R)(k:Nat)(a:Bool)(b c:Int)(d:ByteArray)(e f:Int)(g h i l m n:LV)(o:Bool)(p q r s t u v:LV)(w:Bool)(x y z:LV)(A:Bool)(Ko:Cu R J42):OV R:=l26_4g G k Ko k a b c d e f g h i l m n o p q r s t u v w x y z A
def L26{R:Type}(G:ORC R)(k:Nat):Nat→St→(Ex→St→OV R)→OV R
 |2,S,K=>P26_2h.mat S fun vs=>uc J40 (l26_2g G k (koX J39 P26_2x K) k) vs none
 |0,S,K=>P26_0h.mat S fun vs=>uc J39 (l26_0g G k (koX J41 P26_0x K) k) vs none
 |4,S,K=>P26_4h.mat S fun vs=>uc J43 (l26_4g G k (koX J42 P26_4x K) k) vs none
 |_,_,_=>none
def f26{R:Type}(G:ORC R)(k:Nat)(a:Bool)(b:ByteArray)(c d:Int)(e f g h i l:LV)(m:Bool)(n o p q:LV)(K:LV→OV R):OV R:=
 (l26_0 G k a true b c d e f g h i l m n o p q [] [] [] false (fun a b c d e f g h i l m n o p q r s t u=>G 55 [.sl 1 o] fun v=>uL 1 v fun v w=>unNil w (G 55 [.sl 1 p] fun w=>uL 1 w fun w x=>unNil x (bif a then(G 60 [.sl 1 o,.bool true] fun x=>uB x fun x y=>unNil y (l26_4 G k a (v.length:Int) 0 b c d e f g h i l m n o p q r s t u v w q x (fun x y z A B C D A B C D A B E D F H I D F H I=>K [.agg [.sl 1 D,.sl 1 F,.sl 1 H,.bool I],.str x,.int .i64 y,.int .i64 z,.bool C,.sl 1 A,.sl 1 B,.sl 1 E])))else(l26_4 G k a (v.length:Int) 0 b c d e f g h i l m n o p q r s t u v w q false (fun a b c d e f g d e f g d e h g i l m g i l m=>K [.agg [.sl 1 g,.sl 1 i,.sl 1 l,.bool m],.str a,.int .i64 b,.int .i64 c,.bool f,.sl 1 d,.sl 1 e,.sl 1 h]))))))
abbrev g26 {R:Type} (G:ORC R) (k:Nat):LV→(LV→OV R)→OV R:=gF J44 (f26 G k)
theorem s26{R:Type}{G:ORC R}{k:Nat}(hG:Sound Tryz.prog TAB G):TL 26 (g26 G k):=
 gG J44 (by kernel_rfl) (callF_sound (L:=L26 G k) (f:=26) TAB_chk MO hG Tryz.func26 (sg:=S26) (by kernel_rfl) (by kernel_rfl) (las [0,2,4] (by kernel_rfl) ⟨loopIs J39 k (fun K X=>b26_0 G k X (koX J41 P26_0x K)) P26_0h P26_0x default (by kernel_rfl) (by kernel_rfl) (by kernel_rfl) (fun K X=>by kernel_rfl) (fun S K=>by kernel_rfl),loopIs J40 k (fun K X=>b26_2 G k X (koX J39 P26_2x K)) P26_2h P26_2x default (by kernel_rfl) (by kernel_rfl) (by kernel_rfl) (fun K X=>by kernel_rfl) (fun S K=>by kernel_rfl),loopIs J43 k (fun K X=>b26_4 G k X (koX J42 P26_4x K)) P26_4h P26_4x default (by kernel_rfl) (by kernel_rfl) (by kernel_rfl) (fun K X=>by kernel_rfl) (fun S K=>by kernel_rfl),trivial⟩))
def f9{R:Type}(G:ORC R)(k:Nat)(a:ByteArray)(b c:Int)(d e f g h i:LV)(l:Bool)(m:LV)(K:LV→OV R):OV R:=
 (bif(((decide (0≤(h.length:Int)))&&(decide ((h.length:Int)≤(h.length:Int))))&&(decide ((h.length:Int)≤1073741824)))then(bif(((decide (0≤(i.length:Int)))&&(decide ((i.length:Int)≤(i.length:Int))))&&(decide ((i.length:Int)≤1073741824)))then(G 26 [.bool false,.str a,.int .i64 b,.int .i64 c,.sl 1 d,.sl 1 e,.sl 1 f,.sl 7 g,.sl 6 h,.sl 1 i,.bool l,.sl 1 m,.sl 1 (List.replicate (Int.toNat (h.length:Int)) (V.bool false)),.sl 1 (List.replicate (Int.toNat (i.length:Int)) (V.bool false)),.sl 1 []] fun a=>uA a fun a b=>uL 1 a fun a c=>uL 1 c fun c d=>uL 1 d fun d e=>uB e fun e f=>unNil f (uS b fun b f=>uI .i64 f fun b f=>uI .i64 f fun b f=>uB f fun b f=>uL 1 f fun b f=>uL 1 f fun b f=>uL 1 f fun b f=>unNil f (K [.agg [.sl 1 a,.sl 1 c,.sl 1 d,.bool e]])))else none)else none)
abbrev g9 {R:Type} (G:ORC R) (k:Nat):LV→(LV→OV R)→OV R:=gF J8 (f9 G k)
theorem s9{R:Type}{G:ORC R}{k:Nat}(hG:Sound Tryz.prog TAB G):TL 9 (g9 G k):=
 gG J8 (by kernel_rfl) (callF_sound (L:=fun _ _ _=>none) (f:=9) TAB_chk MO hG Tryz.func9 (sg:=S9) (by kernel_rfl) (by kernel_rfl) (las [] (by kernel_rfl) trivial))
def f7{R:Type}(G:ORC R)(k:Nat)(a b:Int)(K:LV→OV R):OV R:=
 (bif(!(b==0))then(bif(decide ((Int.tmod a b)<0))then(K [.int .i64 (IntKind.i64.wrap ((Int.tmod a b)+b))])else(K [.int .i64 (Int.tmod a b)]))else none)
abbrev g7 {R:Type} (G:ORC R) (k:Nat):LV→(LV→OV R)→OV R:=gF J6 (f7 G k)
theorem s7{R:Type}{G:ORC R}{k:Nat}(hG:Sound Tryz.prog TAB G):TL 7 (g7 G k):=
 gG J6 (by kernel_rfl) (callF_sound (L:=fun _ _ _=>none) (f:=7) TAB_chk MO hG Tryz.func7 (sg:=S7) (by kernel_rfl) (by kernel_rfl) (las [] (by kernel_rfl) trivial))
def f49{R:Type}(G:ORC R)(k:Nat)(a:Int)(b:LV)(c:Int)(K:LV→OV R):OV R:=
 (bif(decide (c≥(b.length:Int)))then(K [.int .i64 0,.int .i64 c])else(bif((decide (0≤(IntKind.i64.wrap ((IntKind.i64.wrap (c+1))-1))))&&(decide ((IntKind.i64.wrap ((IntKind.i64.wrap (c+1))-1))<(b.length:Int))))then(nthK b (Int.toNat (IntKind.i64.wrap ((IntKind.i64.wrap (c+1))-1))) fun b=>aI .i64 b fun b=>G 7 [.int .i64 b,.int .i64 a] fun a=>uI .i64 a fun a b=>unNil b (K [.int .i64 a,.int .i64 (IntKind.i64.wrap (c+1))]))else none))
abbrev g49 {R:Type} (G:ORC R) (k:Nat):LV→(LV→OV R)→OV R:=gF J77 (f49 G k)
theorem s49{R:Type}{G:ORC R}{k:Nat}(hG:Sound Tryz.prog TAB G):TL 49 (g49 G k):=
 gG J77 (by kernel_rfl) (callF_sound (L:=fun _ _ _=>none) (f:=49) TAB_chk MO hG Tryz.func49 (sg:=S49) (by kernel_rfl) (by kernel_rfl) (las [] (by kernel_rfl) trivial))
def f74{R:Type}(G:ORC R)(k:Nat)(a:LV)(b:ByteArray)(c:LV)(d:Int)(K:LV→OV R):OV R:=
 (bif((a.length:Int)==0)then(K [.str b,.int .i64 d])else(G 49 [.int .i64 (a.length:Int),.sl 1 c,.int .i64 d] fun b=>uI .i64 b fun b c=>uI .i64 c fun c d=>unNil d (bif((decide (0≤b))&&(decide (b<(a.length:Int))))then(nthK a (Int.toNat b) fun a=>V.asStr a fun a=>K [.str a,.int .i64 c])else none)))
abbrev g74 {R:Type} (G:ORC R) (k:Nat):LV→(LV→OV R)→OV R:=gF J112 (f74 G k)
theorem s74{R:Type}{G:ORC R}{k:Nat}(hG:Sound Tryz.prog TAB G):TL 74 (g74 G k):=
 gG J112 (by kernel_rfl) (callF_sound (L:=fun _ _ _=>none) (f:=74) TAB_chk MO hG Tryz.func74 (sg:=S74) (by kernel_rfl) (by kernel_rfl) (las [] (by kernel_rfl) trivial))
def f6{R:Type}(G:ORC R)(k:Nat)(a:Int)(K:LV→OV R):OV R:=
 (G 7 [.int .i64 a,.int .i64 8] fun a=>uI .i64 a fun a b=>unNil b (bif((decide (0≤a))&&(decide (a<8)))then(nthK [.str ⟨#[103,111]⟩,.str ⟨#[112,105,110,103]⟩,.str ⟨#[112,111,110,103]⟩,.str ⟨#[101,114,114,111,114]⟩,.str ⟨#[116,48]⟩,.str ⟨#[98,97,108,108]⟩,.str ⟨#[103,111]⟩,.str ⟨#[112,105,110,103]⟩] (Int.toNat a) fun a=>K [a])else none))
abbrev g6 {R:Type} (G:ORC R) (k:Nat):LV→(LV→OV R)→OV R:=gF J5 (f6 G k)
theorem s6{R:Type}{G:ORC R}{k:Nat}(hG:Sound Tryz.prog TAB G):TL 6 (g6 G k):=
 gG J5 (by kernel_rfl) (callF_sound (L:=fun _ _ _=>none) (f:=6) TAB_chk MO hG Tryz.func6 (sg:=S6) (by kernel_rfl) (by kernel_rfl) (las [] (by kernel_rfl) trivial))
abbrev c73_7 {R:Type} (G:ORC R) (k:Nat) (K:LV→OV R) (a:LV) (b:Int):OV R:=
 (G 49 [.int .i64 6,.sl 1 a,.int .i64 b] fun a=>uI .i64 a fun a b=>uI .i64 b fun b c=>unNil c (bif((decide (0≤a))&&(decide (a<6)))then(nthK [.int .i64 0,.int .i64 1,.int .i64 2,.int .i64 7,.int .i64 1099511627776,.int .i64 9223372036854775807] (Int.toNat a) fun a=>aI .i64 a fun a=>K [.agg [.int .i64 1,.int .i64 a,.str ⟨#[]⟩,.sl 5 [],.int .i64 0],.int .i64 b])else none))
abbrev c73_9 {R:Type} (G:ORC R) (k:Nat) (K:LV→OV R) (a b:LV) (c:Int):OV R:=
 (G 74 [.sl 1 a,.str ⟨#[]⟩,.sl 1 b,.int .i64 c] fun a=>uS a fun a b=>uI .i64 b fun b c=>unNil c (K [.agg [.int .i64 2,.int .i64 0,.str a,.sl 5 [],.int .i64 0],.int .i64 b]))
abbrev c73_8 {R:Type} (G:ORC R) (k:Nat) (K:LV→OV R) (a b:LV) (c:Int):OV R:=
 (G 74 [.sl 1 a,.str ⟨#[]⟩,.sl 1 b,.int .i64 c] fun a=>uS a fun a b=>uI .i64 b fun b c=>unNil c (K [.agg [.int .i64 4,.int .i64 0,.str a,.sl 5 [],.int .i64 0],.int .i64 b]))
abbrev c73_6 {R:Type} (G:ORC R) (k:Nat) (K:LV→OV R) (a:LV) (b:Int) (c d e f:LV) (g:Int):OV R:=
 (G 49 [.int .i64 2,.sl 1 a,.int .i64 b] fun b=>uI .i64 b fun b h=>uI .i64 h fun h i=>unNil i (G 73 [.agg [.sl 1 c,.sl 1 d,.sl 1 e,.sl 1 f],.int .i64 (IntKind.i64.wrap (g-1)),.sl 1 a,.int .i64 h] fun a=>uA a fun a c=>uI .i64 a fun a d=>uI .i64 d fun d e=>uS e fun e f=>uL 5 f fun f g=>uI .i64 g fun g h=>unNil h (uI .i64 c fun c h=>unNil h (K [.agg [.int .i64 (IntKind.i64.wrap (5+b)),.int .i64 0,.str ⟨#[]⟩,.sl 5 [.agg [.int .i64 a,.int .i64 d,.str e,.sl 5 f,.int .i64 g]],.int .i64 0],.int .i64 c]))))
abbrev c73_5 {R:Type} (G:ORC R) (k:Nat) (K:LV→OV R) (a b c d:LV) (e:Int) (f:LV) (g:Int):OV R:=
 (G 73 [.agg [.sl 1 a,.sl 1 b,.sl 1 c,.sl 1 d],.int .i64 (IntKind.i64.wrap (e-1)),.sl 1 f,.int .i64 g] fun g=>uA g fun g h=>uI .i64 g fun g i=>uI .i64 i fun i l=>uS l fun l m=>uL 5 m fun m n=>uI .i64 n fun n o=>unNil o (uI .i64 h fun h o=>unNil o (G 49 [.int .i64 13,.sl 1 f,.int .i64 h] fun h=>uI .i64 h fun h o=>uI .i64 o fun o p=>unNil p (G 73 [.agg [.sl 1 a,.sl 1 b,.sl 1 c,.sl 1 d],.int .i64 (IntKind.i64.wrap (e-1)),.sl 1 f,.int .i64 o] fun a=>uA a fun a b=>uI .i64 a fun a c=>uI .i64 c fun c d=>uS d fun d e=>uL 5 e fun e f=>uI .i64 f fun f o=>unNil o (uI .i64 b fun b o=>unNil o (K [.agg [.int .i64 (IntKind.i64.wrap (7+h)),.int .i64 0,.str ⟨#[]⟩,.sl 5 [.agg [.int .i64 g,.int .i64 i,.str l,.sl 5 m,.int .i64 n],.agg [.int .i64 a,.int .i64 c,.str d,.sl 5 e,.int .i64 f]],.int .i64 0],.int .i64 b]))))))
abbrev c73_3 {R:Type} (G:ORC R) (k:Nat) (K:LV→OV R) (a b:Int) (c d e f g:LV) (h:Int):OV R:=
 (bif(decide (a<6))then(K [.agg [.int .i64 3,.int .i64 0,.str ⟨#[]⟩,.sl 5 [],.int .i64 0],.int .i64 b])else(bif(a==6)then(c73_6 G k K c b d e f g h)else(c73_5 G k K d e f g h c b)))
abbrev c73_1 {R:Type} (G:ORC R) (k:Nat) (K:LV→OV R) (a:Int) (b c:LV) (d:Int) (e f g:LV) (h:Int):OV R:=
 (bif(a==3)then(bif(decide ((b.length:Int)>0))then(c73_8 G k K b c d)else(c73_3 G k K a d c e f g b h))else(c73_3 G k K a d c e f g b h))
abbrev c73_0 {R:Type} (G:ORC R) (k:Nat) (K:LV→OV R) (a:Int) (b:LV) (c:Int) (d e f g:LV) (h:Int):OV R:=
 (bif(decide (a<2))then(c73_7 G k K b c)else(bif(a==2)then(bif(decide ((d.length:Int)>0))then(c73_9 G k K d b c)else(c73_1 G k K a e b c d f g h))else(c73_1 G k K a e b c d f g h)))
abbrev c73_4 {R:Type} (G:ORC R) (k:Nat) (K:LV→OV R) (a b:Int) (c d e f g:LV) (h:Int):OV R:=
 (bif(decide ((Int.tmod a 6)<6))then(K [.agg [.int .i64 3,.int .i64 0,.str ⟨#[]⟩,.sl 5 [],.int .i64 0],.int .i64 b])else(bif((Int.tmod a 6)==6)then(c73_6 G k K c b d e f g h)else(c73_5 G k K d e f g h c b)))
abbrev c73_2 {R:Type} (G:ORC R) (k:Nat) (K:LV→OV R) (a:Int) (b c:LV) (d:Int) (e f g:LV) (h:Int):OV R:=
 (bif((Int.tmod a 6)==3)then(bif(decide ((b.length:Int)>0))then(c73_8 G k K b c d)else(c73_4 G k K a d c e f g b h))else(c73_4 G k K a d c e f g b h))
def f73{R:Type}(G:ORC R)(k:Nat)(a b c d:LV)(e:Int)(f:LV)(g:Int)(K:LV→OV R):OV R:=
 (G 49 [.int .i64 14,.sl 1 f,.int .i64 g] fun g=>uI .i64 g fun g h=>uI .i64 h fun h i=>unNil i (bif(e==0)then(bif(decide (g>5))then(bif(decide ((Int.tmod g 6)<2))then(c73_7 G k K f h)else(bif((Int.tmod g 6)==2)then(bif(decide ((a.length:Int)>0))then(c73_9 G k K a f h)else(c73_2 G k K g d f h a b c e))else(c73_2 G k K g d f h a b c e)))else(c73_0 G k K g f h a d b c e))else(c73_0 G k K g f h a d b c e)))
abbrev g73 {R:Type} (G:ORC R) (k:Nat):LV→(LV→OV R)→OV R:=gF J111 (f73 G k)
theorem s73{R:Type}{G:ORC R}{k:Nat}(hG:Sound Tryz.prog TAB G):TL 73 (g73 G k):=
 gG J111 (by kernel_rfl) (callF_sound (L:=fun _ _ _=>none) (f:=73) TAB_chk MO hG Tryz.func73 (sg:=S73) (by kernel_rfl) (by kernel_rfl) (las [] (by kernel_rfl) trivial))
def f93{R:Type}(G:ORC R)(k:Nat)(a:Int)(K:LV→OV R):OV R:=
 (bif(decide (a≤(-10)))then(G 93 [.int .i64 (IntKind.i64.wrap (Int.tdiv a 10))] fun b=>uS b fun b c=>unNil c (bif(((decide (0≤(IntKind.i64.wrap (0-(Int.tmod a 10)))))&&(decide ((IntKind.i64.wrap (0-(Int.tmod a 10)))≤(IntKind.i64.wrap ((IntKind.i64.wrap (0-(Int.tmod a 10)))+1)))))&&(decide ((IntKind.i64.wrap ((IntKind.i64.wrap (0-(Int.tmod a 10)))+1))≤((ByteArray.size ⟨#[48,49,50,51,52,53,54,55,56,57]⟩:Nat):Int))))then(bif(decide (ByteArray.size b+ByteArray.size (ByteArray.extract ⟨#[48,49,50,51,52,53,54,55,56,57]⟩ (Int.toNat (IntKind.i64.wrap (0-(Int.tmod a 10)))) (Int.toNat (IntKind.i64.wrap ((IntKind.i64.wrap (0-(Int.tmod a 10)))+1))))≤4294967296))then(K [.str (b++(ByteArray.extract ⟨#[48,49,50,51,52,53,54,55,56,57]⟩ (Int.toNat (IntKind.i64.wrap (0-(Int.tmod a 10)))) (Int.toNat (IntKind.i64.wrap ((IntKind.i64.wrap (0-(Int.tmod a 10)))+1)))))])else none)else none))else(bif(decide (a<0))then(bif(((decide (0≤(IntKind.i64.wrap (0-a))))&&(decide ((IntKind.i64.wrap (0-a))≤(IntKind.i64.wrap ((IntKind.i64.wrap (0-a))+1)))))&&(decide ((IntKind.i64.wrap ((IntKind.i64.wrap (0-a))+1))≤((ByteArray.size ⟨#[48,49,50,51,52,53,54,55,56,57]⟩:Nat):Int))))then(bif(decide (ByteArray.size ⟨#[45]⟩+ByteArray.size (ByteArray.extract ⟨#[48,49,50,51,52,53,54,55,56,57]⟩ (Int.toNat (IntKind.i64.wrap (0-a))) (Int.toNat (IntKind.i64.wrap ((IntKind.i64.wrap (0-a))+1))))≤4294967296))then(K [.str (⟨#[45]⟩++(ByteArray.extract ⟨#[48,49,50,51,52,53,54,55,56,57]⟩ (Int.toNat (IntKind.i64.wrap (0-a))) (Int.toNat (IntKind.i64.wrap ((IntKind.i64.wrap (0-a))+1)))))])else none)else none)else(bif(decide (a<10))then(bif(((decide (0≤a))&&(decide (a≤(IntKind.i64.wrap (a+1)))))&&(decide ((IntKind.i64.wrap (a+1))≤((ByteArray.size ⟨#[48,49,50,51,52,53,54,55,56,57]⟩:Nat):Int))))then(K [.str (ByteArray.extract ⟨#[48,49,50,51,52,53,54,55,56,57]⟩ (Int.toNat a) (Int.toNat (IntKind.i64.wrap (a+1))))])else none)else(G 93 [.int .i64 (IntKind.i64.wrap (Int.tdiv a 10))] fun b=>uS b fun b c=>unNil c (bif(((decide (0≤(Int.tmod a 10)))&&(decide ((Int.tmod a 10)≤(IntKind.i64.wrap ((Int.tmod a 10)+1)))))&&(decide ((IntKind.i64.wrap ((Int.tmod a 10)+1))≤((ByteArray.size ⟨#[48,49,50,51,52,53,54,55,56,57]⟩:Nat):Int))))then(bif(decide (ByteArray.size b+ByteArray.size (ByteArray.extract ⟨#[48,49,50,51,52,53,54,55,56,57]⟩ (Int.toNat (Int.tmod a 10)) (Int.toNat (IntKind.i64.wrap ((Int.tmod a 10)+1))))≤4294967296))then(K [.str (b++(ByteArray.extract ⟨#[48,49,50,51,52,53,54,55,56,57]⟩ (Int.toNat (Int.tmod a 10)) (Int.toNat (IntKind.i64.wrap ((Int.tmod a 10)+1)))))])else none)else none)))))
abbrev g93 {R:Type} (G:ORC R) (k:Nat):LV→(LV→OV R)→OV R:=gF J5 (f93 G k)
theorem s93{R:Type}{G:ORC R}{k:Nat}(hG:Sound Tryz.prog TAB G):TL 93 (g93 G k):=
 gG J5 (by kernel_rfl) (callF_sound (L:=fun _ _ _=>none) (f:=93) TAB_chk MO hG Tryz.func93 (sg:=S93) (by kernel_rfl) (by kernel_rfl) (las [] (by kernel_rfl) trivial))
def f71{R:Type}(G:ORC R)(k:Nat)(a:Int)(K:LV→OV R):OV R:=
 (G 93 [.int .i64 a] fun a=>uS a fun a b=>unNil b (K [.str a]))
abbrev g71 {R:Type} (G:ORC R) (k:Nat):LV→(LV→OV R)→OV R:=gF J5 (f71 G k)
theorem s71{R:Type}{G:ORC R}{k:Nat}(hG:Sound Tryz.prog TAB G):TL 71 (g71 G k):=
 gG J5 (by kernel_rfl) (callF_sound (L:=fun _ _ _=>none) (f:=71) TAB_chk MO hG Tryz.func71 (sg:=S71) (by kernel_rfl) (by kernel_rfl) (las [] (by kernel_rfl) trivial))
def P50_0h:Pat:={tmps:=unds [.var .str .pr,pI,pU,pU,pU,.var (.sl 1) (.own true),pI] 13 [],boxes:=nons [] 20 []}
def P50_0x:Pat:={tmps:=unds [] 5 (unds [.var (.sl 1) (.own true)] 14 []),boxes:=nons [] 20 []}
def b50_0{R:Type}(G:ORC R)(k:Nat)(X:Cu R J36)(Ko:Cu R J4)(a:ByteArray)(b:Int)(c:LV)(d:Int):OV R:=
 (bif(decide (d<b))then(G 71 [.int .i64 d] fun e=>uS e fun e f=>unNil f (bif(decide (ByteArray.size a+ByteArray.size e≤4294967296))then(bif(decide (List.length c+1≤1073741824))then(X a b (c++[.str (a++e)]) (IntKind.i64.wrap (d+1)))else none)else none))else(Ko c))
def l50_0g{R:Type}(G:ORC R)(k:Nat)(Ko:Cu R J4)(j:Nat):Cu R J36:=lup J36 (fun X=>b50_0 G k X Ko) j
def l50_0{R:Type}(G:ORC R)(k:Nat)(a:ByteArray)(b:Int)(c:LV)(d:Int)(Ko:Cu R J4):OV R:=l50_0g G k Ko k a b c d
def L50{R:Type}(G:ORC R)(k:Nat):Nat→St→(Ex→St→OV R)→OV R
 |0,S,K=>P50_0h.mat S fun vs=>uc J36 (l50_0g G k (koX J4 P50_0x K) k) vs none
 |_,_,_=>none
def f50{R:Type}(G:ORC R)(k:Nat)(a:ByteArray)(b:Int)(K:LV→OV R):OV R:=
 (l50_0 G k a b [] 0 (fun a=>K [.sl 1 a]))
abbrev g50 {R:Type} (G:ORC R) (k:Nat):LV→(LV→OV R)→OV R:=gF J78 (f50 G k)
theorem s50{R:Type}{G:ORC R}{k:Nat}(hG:Sound Tryz.prog TAB G):TL 50 (g50 G k):=
 gG J78 (by kernel_rfl) (callF_sound (L:=L50 G k) (f:=50) TAB_chk MO hG Tryz.func50 (sg:=S50) (by kernel_rfl) (by kernel_rfl) (las [0] (by kernel_rfl) ⟨loopIs J36 k (fun K X=>b50_0 G k X (koX J4 P50_0x K)) P50_0h P50_0x default (by kernel_rfl) (by kernel_rfl) (by kernel_rfl) (fun K X=>by kernel_rfl) (fun S K=>by kernel_rfl),trivial⟩))
def P51_0h:Pat:={tmps:=unds [pL,pS 0,pU,pU,pU,.var (.sl 3) (.own true),pI] 18 [],boxes:=nons [some B7] 25 []}
def P51_0x:Pat:={tmps:=unds [] 5 (unds [.var (.sl 3) (.own true)] 19 []),boxes:=nons [some B7] 25 []}
def b51_0{R:Type}(G:ORC R)(k:Nat)(X:Cu R J79)(Ko:Cu R J70)(a b:LV)(c:Int)(d:LV)(e:Int):OV R:=
 (bif(decide (c<(a.length:Int)))then(bif((decide (0≤c))&&(decide (c<(a.length:Int))))then(nthK a (Int.toNat c) fun f=>V.asStr f fun f=>G 49 [.int .i64 9,.sl 1 d,.int .i64 e] fun g=>uI .i64 g fun g h=>uI .i64 h fun h i=>unNil i (bif(decide (List.length b+1≤1073741824))then(X a (b++[.agg [.str f,.int .i64 (IntKind.i64.wrap (g-4)),.int .i64 0]]) (IntKind.i64.wrap (c+1)) d h)else none))else none)else(Ko b d e))
def l51_0g{R:Type}(G:ORC R)(k:Nat)(Ko:Cu R J70)(j:Nat):Cu R J79:=lup J79 (fun X=>b51_0 G k X Ko) j
def l51_0{R:Type}(G:ORC R)(k:Nat)(a b:LV)(c:Int)(d:LV)(e:Int)(Ko:Cu R J70):OV R:=l51_0g G k Ko k a b c d e
def L51{R:Type}(G:ORC R)(k:Nat):Nat→St→(Ex→St→OV R)→OV R
 |0,S,K=>P51_0h.mat S fun vs=>uc J79 (l51_0g G k (koX J70 P51_0x K) k) vs none
 |_,_,_=>none
def f51{R:Type}(G:ORC R)(k:Nat)(a b:LV)(c:Int)(K:LV→OV R):OV R:=
 (l51_0 G k a [] 0 b c (fun a b c=>K [.sl 3 a,.int .i64 c]))
abbrev g51 {R:Type} (G:ORC R) (k:Nat):LV→(LV→OV R)→OV R:=gF J38 (f51 G k)
theorem s51{R:Type}{G:ORC R}{k:Nat}(hG:Sound Tryz.prog TAB G):TL 51 (g51 G k):=
 gG J38 (by kernel_rfl) (callF_sound (L:=L51 G k) (f:=51) TAB_chk MO hG Tryz.func51 (sg:=S51) (by kernel_rfl) (by kernel_rfl) (las [0] (by kernel_rfl) ⟨loopIs J79 k (fun K X=>b51_0 G k X (koX J70 P51_0x K)) P51_0h P51_0x default (by kernel_rfl) (by kernel_rfl) (by kernel_rfl) (fun K X=>by kernel_rfl) (fun S K=>by kernel_rfl),trivial⟩))
def P52_0h:Pat:={tmps:=unds [pL,pU,pU,.var (.sl 3) (.own true),pI] 15 [],boxes:=nons [] 20 []}
def P52_0x:Pat:={tmps:=unds [pU,pU,pU,.var (.sl 3) (.own true)] 16 [],boxes:=nons [] 20 []}
def b52_0{R:Type}(G:ORC R)(k:Nat)(X:Cu R J80)(Ko:Cu R J71)(a b:LV)(c:Int):OV R:=
 (bif(decide (c<(a.length:Int)))then(bif((decide (0≤c))&&(decide (c<(a.length:Int))))then(nthK a (Int.toNat c) fun d=>V.asStr d fun d=>bif(decide (List.length b+1≤1073741824))then(X a (b++[.agg [.str d,.int .i64 0,.int .i64 0]]) (IntKind.i64.wrap (c+1)))else none)else none)else(Ko b))
def l52_0g{R:Type}(G:ORC R)(k:Nat)(Ko:Cu R J71)(j:Nat):Cu R J80:=lup J80 (fun X=>b52_0 G k X Ko) j
def l52_0{R:Type}(G:ORC R)(k:Nat)(a b:LV)(c:Int)(Ko:Cu R J71):OV R:=l52_0g G k Ko k a b c
def L52{R:Type}(G:ORC R)(k:Nat):Nat→St→(Ex→St→OV R)→OV R
 |0,S,K=>P52_0h.mat S fun vs=>uc J80 (l52_0g G k (koX J71 P52_0x K) k) vs none
 |_,_,_=>none
def f52{R:Type}(G:ORC R)(k:Nat)(a:LV)(K:LV→OV R):OV R:=
 (l52_0 G k a [] 0 (fun a=>K [.sl 3 a]))
abbrev g52 {R:Type} (G:ORC R) (k:Nat):LV→(LV→OV R)→OV R:=gF J4 (f52 G k)
theorem s52{R:Type}{G:ORC R}{k:Nat}(hG:Sound Tryz.prog TAB G):TL 52 (g52 G k):=
 gG J4 (by kernel_rfl) (callF_sound (L:=L52 G k) (f:=52) TAB_chk MO hG Tryz.func52 (sg:=S52) (by kernel_rfl) (by kernel_rfl) (las [0] (by kernel_rfl) ⟨loopIs J80 k (fun K X=>b52_0 G k X (koX J71 P52_0x K)) P52_0h P52_0x default (by kernel_rfl) (by kernel_rfl) (by kernel_rfl) (fun K X=>by kernel_rfl) (fun S K=>by kernel_rfl),trivial⟩))
def P72_0h:Pat:={tmps:=unds [pS 0,pU,pI,pU,pS 5,pU,pU,.var (.sl 8) (.own true),pI] 148 [],boxes:=nons [some B7,none,none,none,none,some B23] 152 []}
def P72_0x:Pat:={tmps:=unds [] 7 (unds [.var (.sl 8) (.own true)] 149 []),boxes:=nons [some B7] 157 []}
abbrev c72_4 {R:Type} (G:ORC R) (k:Nat) (X:Cu R J110) (a:Int) (b:LV) (c:Int) (d e f g h:LV) (i:Int):OV R:=
 (bif(decide (a>0))then(G 49 [.int .i64 4,.sl 1 b,.int .i64 c] fun l=>uI .i64 l fun l m=>uI .i64 m fun m n=>unNil n (G 72 [.agg [.sl 1 d,.sl 1 e,.sl 1 f,.sl 1 g],.int .i64 (IntKind.i64.wrap (a-1)),.sl 1 b,.int .i64 m] fun m=>uL 8 m fun m n=>uI .i64 n fun n o=>unNil o (bif(decide (List.length h+1≤1073741824))then(X a (h++[.agg [.int .i64 7,.str ⟨#[]⟩,.str ⟨#[]⟩,.sl 5 [],.int .i64 (IntKind.i64.wrap (1+l)),.sl 8 m,.sl 8 [],.int .i64 0]]) (IntKind.i64.wrap (i-1)) b n d e f g)else none)))else(X a h (IntKind.i64.wrap (i-1)) b c d e f g))
abbrev c72_3 {R:Type} (G:ORC R) (k:Nat) (X:Cu R J110) (a b:Int) (c d e f g:LV) (h:Int) (i:LV) (l m:Int) (n:ByteArray) (o:LV) (p q:Int):OV R:=
 (bif(decide (a>0))then(bif((Int.tmod b 2)==0)then(G 72 [.agg [.sl 1 c,.sl 1 d,.sl 1 e,.sl 1 f],.int .i64 (IntKind.i64.wrap (a-1)),.sl 1 g,.int .i64 h] fun b=>uL 8 b fun b r=>uI .i64 r fun r s=>unNil s (G 72 [.agg [.sl 1 c,.sl 1 d,.sl 1 e,.sl 1 f],.int .i64 (IntKind.i64.wrap (a-1)),.sl 1 g,.int .i64 r] fun r=>uL 8 r fun r s=>uI .i64 s fun s t=>unNil t (bif(decide (List.length i+1≤1073741824))then(X a (i++[.agg [.int .i64 6,.str ⟨#[]⟩,.str ⟨#[]⟩,.sl 5 [.agg [.int .i64 l,.int .i64 m,.str n,.sl 5 o,.int .i64 p]],.int .i64 0,.sl 8 b,.sl 8 r,.int .i64 0]]) (IntKind.i64.wrap (q-1)) g s c d e f)else none)))else(c72_4 G k X a g h c d e f i q))else(c72_4 G k X a g h c d e f i q))
abbrev c72_2 {R:Type} (G:ORC R) (k:Nat) (X:Cu R J110) (a:Int) (b c:LV) (d:Int) (e:LV) (f g:Int) (h i l:LV) (m n:Int) (o:ByteArray) (p:LV) (q:Int):OV R:=
 (bif(a==8)then(bif(decide ((b.length:Int)>0))then(G 74 [.sl 1 b,.str ⟨#[]⟩,.sl 1 c,.int .i64 d] fun r=>uS r fun r s=>uI .i64 s fun s t=>unNil t (bif(decide (List.length e+1≤1073741824))then(X f (e++[.agg [.int .i64 5,.str r,.str ⟨#[]⟩,.sl 5 [],.int .i64 0,.sl 8 [],.sl 8 [],.int .i64 0]]) (IntKind.i64.wrap (g-1)) c s h i b l)else none))else(c72_3 G k X f a h i b l c d e m n o p q g))else(c72_3 G k X f a h i b l c d e m n o p q g))
abbrev c72_1 {R:Type} (G:ORC R) (k:Nat) (X:Cu R J110) (a:Int) (b c:LV) (d:Int) (e:LV) (f g:Int) (h i l:LV) (m n:Int) (o:ByteArray) (p:LV) (q:Int):OV R:=
 (bif(a==7)then(bif(decide ((b.length:Int)>0))then(G 74 [.sl 1 b,.str ⟨#[]⟩,.sl 1 c,.int .i64 d] fun r=>uS r fun r s=>uI .i64 s fun s t=>unNil t (G 49 [.int .i64 3,.sl 1 c,.int .i64 s] fun s=>uI .i64 s fun s t=>uI .i64 t fun t u=>unNil u (bif(decide (List.length e+1≤1073741824))then(X f (e++[.agg [.int .i64 4,.str r,.str ⟨#[]⟩,.sl 5 [.agg [.int .i64 1,.int .i64 (IntKind.i64.wrap (1+s)),.str ⟨#[]⟩,.sl 5 [],.int .i64 0]],.int .i64 0,.sl 8 [],.sl 8 [],.int .i64 0]]) (IntKind.i64.wrap (g-1)) c t h i b l)else none)))else(c72_2 G k X a b c d e f g h i l m n o p q))else(c72_2 G k X a b c d e f g h i l m n o p q))
abbrev c72_0 {R:Type} (G:ORC R) (k:Nat) (X:Cu R J110) (a:Int) (b:LV) (c:Int) (d:LV) (e f g:Int) (h:ByteArray) (i:LV) (l m:Int) (n o p q:LV):OV R:=
 (bif(a==3)then(G 49 [.int .i64 8,.sl 1 b,.int .i64 c] fun r=>uI .i64 r fun r s=>uI .i64 s fun s t=>unNil t (G 6 [.int .i64 r] fun r=>uS r fun r t=>unNil t (G 49 [.int .i64 2,.sl 1 b,.int .i64 s] fun s=>uI .i64 s fun s t=>uI .i64 t fun t u=>unNil u (bif((decide (0≤s))&&(decide (s≤1)))then(bif(decide (List.length d+1≤1073741824))then(X e (d++[.agg [.int .i64 2,.str ⟨#[]⟩,.str r,.sl 5 (List.take (Int.toNat s) [.agg [.int .i64 f,.int .i64 g,.str h,.sl 5 i,.int .i64 l]]),.int .i64 0,.sl 8 [],.sl 8 [],.int .i64 0]]) (IntKind.i64.wrap (m-1)) b t n o p q)else none)else none))))else(bif(decide (a<7))then(bif(decide ((o.length:Int)>0))then(G 74 [.sl 1 o,.str ⟨#[]⟩,.sl 1 b,.int .i64 c] fun r=>uS r fun r s=>uI .i64 s fun s t=>unNil t (G 49 [.int .i64 3,.sl 1 b,.int .i64 s] fun s=>uI .i64 s fun s t=>uI .i64 t fun t u=>unNil u (G 6 [.int .i64 s] fun s=>uS s fun s u=>unNil u (G 49 [.int .i64 2,.sl 1 b,.int .i64 t] fun t=>uI .i64 t fun t u=>uI .i64 u fun u v=>unNil v (bif((decide (0≤t))&&(decide (t≤1)))then(bif(decide (List.length d+1≤1073741824))then(X e (d++[.agg [.int .i64 3,.str r,.str s,.sl 5 (List.take (Int.toNat t) [.agg [.int .i64 f,.int .i64 g,.str h,.sl 5 i,.int .i64 l]]),.int .i64 0,.sl 8 [],.sl 8 [],.int .i64 0]]) (IntKind.i64.wrap (m-1)) b u n o p q)else none)else none)))))else(c72_1 G k X a p b c d e m n o q f g h i l))else(c72_1 G k X a p b c d e m n o q f g h i l)))
def b72_0{R:Type}(G:ORC R)(k:Nat)(X:Cu R J110)(Ko:Cu R J109)(a:Int)(b:LV)(c:Int)(d:LV)(e:Int)(f g h i:LV):OV R:=
 (bif(decide (c>0))then(G 49 [.int .i64 10,.sl 1 d,.int .i64 e] fun l=>uI .i64 l fun l m=>uI .i64 m fun m n=>unNil n (G 73 [.agg [.sl 1 f,.sl 1 g,.sl 1 h,.sl 1 i],.int .i64 2,.sl 1 d,.int .i64 m] fun m=>uA m fun m n=>uI .i64 m fun m o=>uI .i64 o fun o p=>uS p fun p q=>uL 5 q fun q r=>uI .i64 r fun r s=>unNil s (uI .i64 n fun n s=>unNil s (bif(decide (l<3))then(bif(decide ((f.length:Int)>0))then(G 74 [.sl 1 f,.str ⟨#[]⟩,.sl 1 d,.int .i64 n] fun s=>uS s fun s t=>uI .i64 t fun t u=>unNil u (bif(decide (List.length b+1≤1073741824))then(X a (b++[.agg [.int .i64 1,.str s,.str ⟨#[]⟩,.sl 5 [.agg [.int .i64 m,.int .i64 o,.str p,.sl 5 q,.int .i64 r]],.int .i64 0,.sl 8 [],.sl 8 [],.int .i64 0]]) (IntKind.i64.wrap (c-1)) d t f g h i)else none))else(c72_0 G k X l d n b a m o p q r c f g h i))else(c72_0 G k X l d n b a m o p q r c f g h i)))))else(Ko b d e))
def l72_0g{R:Type}(G:ORC R)(k:Nat)(Ko:Cu R J109)(j:Nat):Cu R J110:=lup J110 (fun X=>b72_0 G k X Ko) j
def l72_0{R:Type}(G:ORC R)(k:Nat)(a:Int)(b:LV)(c:Int)(d:LV)(e:Int)(f g h i:LV)(Ko:Cu R J109):OV R:=l72_0g G k Ko k a b c d e f g h i
def L72{R:Type}(G:ORC R)(k:Nat):Nat→St→(Ex→St→OV R)→OV R
 |0,S,K=>P72_0h.mat S fun vs=>uc J110 (l72_0g G k (koX J109 P72_0x K) k) vs none
 |_,_,_=>none
def f72{R:Type}(G:ORC R)(k:Nat)(a b c d:LV)(e:Int)(f:LV)(g:Int)(K:LV→OV R):OV R:=
 (G 49 [.int .i64 3,.sl 1 f,.int .i64 g] fun g=>uI .i64 g fun g h=>uI .i64 h fun h i=>unNil i (l72_0 G k e [] g f h a b c d (fun a b c=>K [.sl 8 a,.int .i64 c])))
abbrev g72 {R:Type} (G:ORC R) (k:Nat):LV→(LV→OV R)→OV R:=gF J111 (f72 G k)
theorem s72{R:Type}{G:ORC R}{k:Nat}(hG:Sound Tryz.prog TAB G):TL 72 (g72 G k):=
 gG J111 (by kernel_rfl) (callF_sound (L:=L72 G k) (f:=72) TAB_chk MO hG Tryz.func72 (sg:=S72) (by kernel_rfl) (by kernel_rfl) (las [0] (by kernel_rfl) ⟨loopIs J110 k (fun K X=>b72_0 G k X (koX J109 P72_0x K)) P72_0h P72_0x default (by kernel_rfl) (by kernel_rfl) (by kernel_rfl) (fun K X=>by kernel_rfl) (fun S K=>by kernel_rfl),trivial⟩))
def P53_0h:Pat:={tmps:=unds [pS 0,pI,pU,pU,pU,pU,pS 8,pU,pS 10,pI] 137 [],boxes:=nons [some B17,some B7] 6 (nons [some B18,none,some B18] 138 [])}
def P53_0x:Pat:={tmps:=unds [pS 0] 5 (unds [pS 8,pU,pS 10] 138 []),boxes:=nons [some B17,some B7] 6 (nons [some B18,none,some B18] 138 [])}
def b53_0{R:Type}(G:ORC R)(k:Nat)(X:Cu R J82)(Ko:Cu R J81)(a b:Int)(c d e f:LV)(g:Int)(h i:LV)(l m:Int)(n:ByteArray)(o p q r:LV)(s t:Int)(u:ByteArray)(v w x y:LV)(z:Int):OV R:=
 (bif(decide (b>0))then(bif(decide (g>0))then(G 53 [.int .i64 (IntKind.i64.wrap (a-1)),.bool true,.sl 1 c,.sl 1 d,.sl 1 e,.sl 1 f,.int .i64 g,.sl 1 h,.sl 1 i,.int .i64 l] fun A=>uA A fun A B=>uI .i64 A fun A C=>uS C fun C D=>uL 8 D fun D E=>uL 8 E fun E F=>uL 5 F fun F H=>uL 7 H fun H I=>uI .i64 I fun I J=>unNil J (uI .i64 B fun B J=>uL 1 J fun J L=>uI .i64 L fun L M=>unNil M (bif(decide (List.length y+1≤1073741824))then(X a (IntKind.i64.wrap (b-1)) c d e f B J i L m n o p q r s t u v w x (y++[.agg [.int .i64 A,.str C,.sl 8 D,.sl 8 E,.sl 5 F,.sl 7 H,.int .i64 I]]) z)else none)))else(bif((y.length:Int)==0)then(G 53 [.int .i64 (IntKind.i64.wrap (a-1)),.bool true,.sl 1 c,.sl 1 d,.sl 1 e,.sl 1 f,.int .i64 g,.sl 1 h,.sl 1 i,.int .i64 l] fun A=>uA A fun A B=>uI .i64 A fun A C=>uS C fun C D=>uL 8 D fun D E=>uL 8 E fun E F=>uL 5 F fun F H=>uL 7 H fun H I=>uI .i64 I fun I J=>unNil J (uI .i64 B fun B J=>uL 1 J fun J L=>uI .i64 L fun L M=>unNil M (bif(decide (List.length y+1≤1073741824))then(X a (IntKind.i64.wrap (b-1)) c d e f B J i L m n o p q r s t u v w x (y++[.agg [.int .i64 A,.str C,.sl 8 D,.sl 8 E,.sl 5 F,.sl 7 H,.int .i64 I]]) z)else none)))else(Ko c d e f g h i l m n o p q r s t u v w x y z)))else(Ko c d e f g h i l m n o p q r s t u v w x y z))
def l53_0g{R:Type}(G:ORC R)(k:Nat)(Ko:Cu R J81)(j:Nat):Cu R J82:=lup J82 (fun X=>b53_0 G k X Ko) j
def l53_0{R:Type}(G:ORC R)(k:Nat)(a b:Int)(c d e f:LV)(g:Int)(h i:LV)(l m:Int)(n:ByteArray)(o p q r:LV)(s t:Int)(u:ByteArray)(v w x y:LV)(z:Int)(Ko:Cu R J81):OV R:=l53_0g G k Ko k a b c d e f g h i l m n o p q r s t u v w x y z
def L53{R:Type}(G:ORC R)(k:Nat):Nat→St→(Ex→St→OV R)→OV R
 |0,S,K=>P53_0h.mat S fun vs=>uc J82 (l53_0g G k (koX J81 P53_0x K) k) vs none
 |_,_,_=>none
def f53{R:Type}(G:ORC R)(k:Nat)(a:Int)(b:Bool)(b c d e:LV)(f:Int)(g h:LV)(i:Int)(K:LV→OV R):OV R:=
 (G 71 [.int .i64 (g.length:Int)] fun l=>uS l fun l m=>unNil m (bif(decide (ByteArray.size ⟨#[115]⟩+ByteArray.size l≤4294967296))then(bif(decide (List.length g+1≤1073741824))then(G 71 [.int .i64 (g.length:Int)] fun m=>uS m fun m n=>unNil n (bif(decide (ByteArray.size ⟨#[115]⟩+ByteArray.size m≤4294967296))then(bif(decide (a>0))then(bif(decide ((IntKind.i64.wrap (f-1))≥2))then(G 49 [.int .i64 3,.sl 1 h,.int .i64 i] fun n=>uI .i64 n fun n o=>uI .i64 o fun o p=>unNil p (bif(decide (n>0))then(G 49 [.int .i64 3,.sl 1 h,.int .i64 o] fun n=>uI .i64 n fun n p=>uI .i64 p fun p q=>unNil q (bif(n==0)then(G 49 [.int .i64 3,.sl 1 h,.int .i64 p] fun n=>uI .i64 n fun n q=>uI .i64 q fun q r=>unNil r (l53_0 G k a (IntKind.i64.wrap (1+n)) b c d e (IntKind.i64.wrap (f-1)) (g++[.str (⟨#[115]⟩++l)]) h q 0 ⟨#[]⟩ [] [] [] [] 0 2 (⟨#[115]⟩++m) [] [] [] [] 0 (fun n q r s n q r s t u v w t u v w t u v x y z=>bif(decide (n>0))then(G 49 [.int .i64 2,.sl 1 r,.int .i64 s] fun A=>uI .i64 A fun A B=>uI .i64 B fun B C=>unNil C (bif(A==0)then(G 49 [.int .i64 2,.sl 1 r,.int .i64 B] fun r=>uI .i64 r fun r A=>uI .i64 A fun A C=>unNil C (G 71 [.int .i64 (q.length:Int)] fun C=>uS C fun C D=>unNil D (bif(decide (ByteArray.size ⟨#[104]⟩+ByteArray.size C≤4294967296))then(bif(decide (List.length q+1≤1073741824))then(bif(decide (List.length y+1≤1073741824))then(K [.agg [.int .i64 w,.str t,.sl 8 u,.sl 8 v,.sl 5 x,.sl 7 (y++[.agg [.int .i64 (IntKind.i64.wrap (3+r)),.str (⟨#[104]⟩++C),.sl 8 [],.sl 8 [],.sl 5 [],.sl 7 [],.int .i64 0]]),.int .i64 z],.int .i64 (IntKind.i64.wrap (n-1)),.sl 1 (q++[.str (⟨#[104]⟩++C)]),.int .i64 A])else none)else none)else none)))else(K [.agg [.int .i64 w,.str t,.sl 8 u,.sl 8 v,.sl 5 x,.sl 7 y,.int .i64 z],.int .i64 n,.sl 1 q,.int .i64 B])))else(K [.agg [.int .i64 w,.str t,.sl 8 u,.sl 8 v,.sl 5 x,.sl 7 y,.int .i64 z],.int .i64 n,.sl 1 q,.int .i64 s]))))else(G 49 [.int .i64 3,.sl 1 h,.int .i64 p] fun n=>uI .i64 n fun n p=>uI .i64 p fun p q=>unNil q (l53_0 G k a (IntKind.i64.wrap (1+n)) b c d e (IntKind.i64.wrap (f-1)) (g++[.str (⟨#[115]⟩++l)]) h p 0 ⟨#[]⟩ [] [] [] [] 0 1 (⟨#[115]⟩++m) [] [] [] [] 0 (fun a b c d a b c d e h n p e h n p e h n q r s=>bif(decide (a>0))then(G 49 [.int .i64 2,.sl 1 c,.int .i64 d] fun t=>uI .i64 t fun t u=>uI .i64 u fun u v=>unNil v (bif(t==0)then(G 49 [.int .i64 2,.sl 1 c,.int .i64 u] fun c=>uI .i64 c fun c t=>uI .i64 t fun t v=>unNil v (G 71 [.int .i64 (b.length:Int)] fun v=>uS v fun v w=>unNil w (bif(decide (ByteArray.size ⟨#[104]⟩+ByteArray.size v≤4294967296))then(bif(decide (List.length b+1≤1073741824))then(bif(decide (List.length r+1≤1073741824))then(K [.agg [.int .i64 p,.str e,.sl 8 h,.sl 8 n,.sl 5 q,.sl 7 (r++[.agg [.int .i64 (IntKind.i64.wrap (3+c)),.str (⟨#[104]⟩++v),.sl 8 [],.sl 8 [],.sl 5 [],.sl 7 [],.int .i64 0]]),.int .i64 s],.int .i64 (IntKind.i64.wrap (a-1)),.sl 1 (b++[.str (⟨#[104]⟩++v)]),.int .i64 t])else none)else none)else none)))else(K [.agg [.int .i64 p,.str e,.sl 8 h,.sl 8 n,.sl 5 q,.sl 7 r,.int .i64 s],.int .i64 a,.sl 1 b,.int .i64 u])))else(K [.agg [.int .i64 p,.str e,.sl 8 h,.sl 8 n,.sl 5 q,.sl 7 r,.int .i64 s],.int .i64 a,.sl 1 b,.int .i64 d]))))))else(K [.agg [.int .i64 1,.str (⟨#[115]⟩++m),.sl 8 [],.sl 8 [],.sl 5 [],.sl 7 [],.int .i64 0],.int .i64 (IntKind.i64.wrap (f-1)),.sl 1 (g++[.str (⟨#[115]⟩++l)]),.int .i64 o])))else(K [.agg [.int .i64 1,.str (⟨#[115]⟩++m),.sl 8 [],.sl 8 [],.sl 5 [],.sl 7 [],.int .i64 0],.int .i64 (IntKind.i64.wrap (f-1)),.sl 1 (g++[.str (⟨#[115]⟩++l)]),.int .i64 i]))else(K [.agg [.int .i64 1,.str (⟨#[115]⟩++m),.sl 8 [],.sl 8 [],.sl 5 [],.sl 7 [],.int .i64 0],.int .i64 (IntKind.i64.wrap (f-1)),.sl 1 (g++[.str (⟨#[115]⟩++l)]),.int .i64 i]))else none))else none)else none))
abbrev g53 {R:Type} (G:ORC R) (k:Nat):LV→(LV→OV R)→OV R:=gF J83 (f53 G k)
theorem s53{R:Type}{G:ORC R}{k:Nat}(hG:Sound Tryz.prog TAB G):TL 53 (g53 G k):=
 gG J83 (by kernel_rfl) (callF_sound (L:=L53 G k) (f:=53) TAB_chk MO hG Tryz.func53 (sg:=S53) (by kernel_rfl) (by kernel_rfl) (las [0] (by kernel_rfl) ⟨loopIs J82 k (fun K X=>b53_0 G k X (koX J81 P53_0x K)) P53_0h P53_0x default (by kernel_rfl) (by kernel_rfl) (by kernel_rfl) (fun K X=>by kernel_rfl) (fun S K=>by kernel_rfl),trivial⟩))
def P54_0h:Pat:={tmps:=unds [pS 0,pU,pU,pS 5,pS 6,pI] 135 [],boxes:=nons [some B19,some B7,none,none,none,some B18,some B18] 136 []}
def P54_0x:Pat:={tmps:=unds [pS 0,pU,pU,pS 5,pS 6] 136 [],boxes:=nons [some B19,some B7,none,none,none,some B18,some B18] 136 []}
def P54_2h:Pat:={tmps:=unds [pS 0,pU,pU,pS 5,pS 6,pU,pU,pI] 133 [],boxes:=nons [some B19,some B7,none,none,none,some B18,some B18] 136 []}
def P54_2x:Pat:={tmps:=unds [pU,pU,pU,pS 5,pS 6] 136 [],boxes:=nons [some B19,some B7,none,none,none,some B18,some B18] 136 []}
def b54_0{R:Type}(G:ORC R)(k:Nat)(X:Cu R J84)(Ko:Cu R J81)(a:Int)(b c d e:LV)(f:Int)(g h:LV)(i l:Int)(m:ByteArray)(n o p q:LV)(r s:Int)(t:ByteArray)(u v w x:LV)(y:Int):OV R:=
 (bif(decide (a>0))then(G 49 [.int .i64 8,.sl 1 h,.int .i64 i] fun z=>uI .i64 z fun z A=>uI .i64 A fun A B=>unNil B (G 6 [.int .i64 z] fun z=>uS z fun z B=>unNil B (G 49 [.int .i64 9,.sl 1 h,.int .i64 A] fun A=>uI .i64 A fun A B=>uI .i64 B fun B C=>unNil C (bif(A==0)then(G 49 [.int .i64 3,.sl 1 h,.int .i64 B] fun A=>uI .i64 A fun A C=>uI .i64 C fun C D=>unNil D (bif(A==0)then(G 73 [.agg [.sl 1 b,.sl 1 c,.sl 1 d,.sl 1 e],.int .i64 2,.sl 1 h,.int .i64 C] fun A=>uA A fun A D=>uI .i64 A fun A E=>uI .i64 E fun E F=>uS F fun F H=>uL 5 H fun H I=>uI .i64 I fun I J=>unNil J (uI .i64 D fun D J=>unNil J (G 49 [.int .i64 4,.sl 1 h,.int .i64 D] fun D=>uI .i64 D fun D J=>uI .i64 J fun J L=>unNil L (bif(decide (D>0))then(G 74 [.sl 1 g,.str ⟨#[]⟩,.sl 1 h,.int .i64 J] fun D=>uS D fun D L=>uI .i64 L fun L M=>unNil M (G 49 [.int .i64 2,.sl 1 h,.int .i64 L] fun L=>uI .i64 L fun L M=>uI .i64 M fun M N=>unNil N (bif(L==0)then(G 72 [.agg [.sl 1 b,.sl 1 c,.sl 1 d,.sl 1 e],.int .i64 2,.sl 1 h,.int .i64 M] fun L=>uL 8 L fun L N=>uI .i64 N fun N O=>unNil O (bif(decide (List.length p+1≤1073741824))then(X (IntKind.i64.wrap (a-1)) b c d e f g h N l m n o (p++[.agg [.str ⟨#[]⟩,.sl 5 [.agg [.int .i64 A,.int .i64 E,.str F,.sl 5 H,.int .i64 I]],.str D,.sl 8 L,.int .i64 0]]) q r s t u v w x y)else none))else(bif(decide (List.length p+1≤1073741824))then(X (IntKind.i64.wrap (a-1)) b c d e f g h M l m n o (p++[.agg [.str ⟨#[]⟩,.sl 5 [.agg [.int .i64 A,.int .i64 E,.str F,.sl 5 H,.int .i64 I]],.str D,.sl 8 [],.int .i64 0]]) q r s t u v w x y)else none))))else(G 49 [.int .i64 2,.sl 1 h,.int .i64 J] fun D=>uI .i64 D fun D J=>uI .i64 J fun J L=>unNil L (bif(D==0)then(G 72 [.agg [.sl 1 b,.sl 1 c,.sl 1 d,.sl 1 e],.int .i64 2,.sl 1 h,.int .i64 J] fun D=>uL 8 D fun D L=>uI .i64 L fun L M=>unNil M (bif(decide (List.length p+1≤1073741824))then(X (IntKind.i64.wrap (a-1)) b c d e f g h L l m n o (p++[.agg [.str ⟨#[]⟩,.sl 5 [.agg [.int .i64 A,.int .i64 E,.str F,.sl 5 H,.int .i64 I]],.str ⟨#[]⟩,.sl 8 D,.int .i64 0]]) q r s t u v w x y)else none))else(bif(decide (List.length p+1≤1073741824))then(X (IntKind.i64.wrap (a-1)) b c d e f g h J l m n o (p++[.agg [.str ⟨#[]⟩,.sl 5 [.agg [.int .i64 A,.int .i64 E,.str F,.sl 5 H,.int .i64 I]],.str ⟨#[]⟩,.sl 8 [],.int .i64 0]]) q r s t u v w x y)else none)))))))else(G 49 [.int .i64 4,.sl 1 h,.int .i64 C] fun A=>uI .i64 A fun A C=>uI .i64 C fun C D=>unNil D (bif(decide (A>0))then(G 74 [.sl 1 g,.str ⟨#[]⟩,.sl 1 h,.int .i64 C] fun A=>uS A fun A D=>uI .i64 D fun D E=>unNil E (G 49 [.int .i64 2,.sl 1 h,.int .i64 D] fun D=>uI .i64 D fun D E=>uI .i64 E fun E F=>unNil F (bif(D==0)then(G 72 [.agg [.sl 1 b,.sl 1 c,.sl 1 d,.sl 1 e],.int .i64 2,.sl 1 h,.int .i64 E] fun D=>uL 8 D fun D F=>uI .i64 F fun F H=>unNil H (bif(decide (List.length p+1≤1073741824))then(X (IntKind.i64.wrap (a-1)) b c d e f g h F l m n o (p++[.agg [.str ⟨#[]⟩,.sl 5 [],.str A,.sl 8 D,.int .i64 0]]) q r s t u v w x y)else none))else(bif(decide (List.length p+1≤1073741824))then(X (IntKind.i64.wrap (a-1)) b c d e f g h E l m n o (p++[.agg [.str ⟨#[]⟩,.sl 5 [],.str A,.sl 8 [],.int .i64 0]]) q r s t u v w x y)else none))))else(G 49 [.int .i64 2,.sl 1 h,.int .i64 C] fun A=>uI .i64 A fun A C=>uI .i64 C fun C D=>unNil D (bif(A==0)then(G 72 [.agg [.sl 1 b,.sl 1 c,.sl 1 d,.sl 1 e],.int .i64 2,.sl 1 h,.int .i64 C] fun A=>uL 8 A fun A D=>uI .i64 D fun D E=>unNil E (bif(decide (List.length p+1≤1073741824))then(X (IntKind.i64.wrap (a-1)) b c d e f g h D l m n o (p++[.agg [.str ⟨#[]⟩,.sl 5 [],.str ⟨#[]⟩,.sl 8 A,.int .i64 0]]) q r s t u v w x y)else none))else(bif(decide (List.length p+1≤1073741824))then(X (IntKind.i64.wrap (a-1)) b c d e f g h C l m n o (p++[.agg [.str ⟨#[]⟩,.sl 5 [],.str ⟨#[]⟩,.sl 8 [],.int .i64 0]]) q r s t u v w x y)else none)))))))else(G 49 [.int .i64 3,.sl 1 h,.int .i64 B] fun A=>uI .i64 A fun A B=>uI .i64 B fun B C=>unNil C (bif(A==0)then(G 73 [.agg [.sl 1 b,.sl 1 c,.sl 1 d,.sl 1 e],.int .i64 2,.sl 1 h,.int .i64 B] fun A=>uA A fun A C=>uI .i64 A fun A D=>uI .i64 D fun D E=>uS E fun E F=>uL 5 F fun F H=>uI .i64 H fun H I=>unNil I (uI .i64 C fun C I=>unNil I (G 49 [.int .i64 4,.sl 1 h,.int .i64 C] fun C=>uI .i64 C fun C I=>uI .i64 I fun I J=>unNil J (bif(decide (C>0))then(G 74 [.sl 1 g,.str ⟨#[]⟩,.sl 1 h,.int .i64 I] fun C=>uS C fun C J=>uI .i64 J fun J L=>unNil L (G 49 [.int .i64 2,.sl 1 h,.int .i64 J] fun J=>uI .i64 J fun J L=>uI .i64 L fun L M=>unNil M (bif(J==0)then(G 72 [.agg [.sl 1 b,.sl 1 c,.sl 1 d,.sl 1 e],.int .i64 2,.sl 1 h,.int .i64 L] fun J=>uL 8 J fun J M=>uI .i64 M fun M N=>unNil N (bif(decide (List.length p+1≤1073741824))then(X (IntKind.i64.wrap (a-1)) b c d e f g h M l m n o (p++[.agg [.str z,.sl 5 [.agg [.int .i64 A,.int .i64 D,.str E,.sl 5 F,.int .i64 H]],.str C,.sl 8 J,.int .i64 0]]) q r s t u v w x y)else none))else(bif(decide (List.length p+1≤1073741824))then(X (IntKind.i64.wrap (a-1)) b c d e f g h L l m n o (p++[.agg [.str z,.sl 5 [.agg [.int .i64 A,.int .i64 D,.str E,.sl 5 F,.int .i64 H]],.str C,.sl 8 [],.int .i64 0]]) q r s t u v w x y)else none))))else(G 49 [.int .i64 2,.sl 1 h,.int .i64 I] fun C=>uI .i64 C fun C I=>uI .i64 I fun I J=>unNil J (bif(C==0)then(G 72 [.agg [.sl 1 b,.sl 1 c,.sl 1 d,.sl 1 e],.int .i64 2,.sl 1 h,.int .i64 I] fun C=>uL 8 C fun C J=>uI .i64 J fun J L=>unNil L (bif(decide (List.length p+1≤1073741824))then(X (IntKind.i64.wrap (a-1)) b c d e f g h J l m n o (p++[.agg [.str z,.sl 5 [.agg [.int .i64 A,.int .i64 D,.str E,.sl 5 F,.int .i64 H]],.str ⟨#[]⟩,.sl 8 C,.int .i64 0]]) q r s t u v w x y)else none))else(bif(decide (List.length p+1≤1073741824))then(X (IntKind.i64.wrap (a-1)) b c d e f g h I l m n o (p++[.agg [.str z,.sl 5 [.agg [.int .i64 A,.int .i64 D,.str E,.sl 5 F,.int .i64 H]],.str ⟨#[]⟩,.sl 8 [],.int .i64 0]]) q r s t u v w x y)else none)))))))else(G 49 [.int .i64 4,.sl 1 h,.int .i64 B] fun A=>uI .i64 A fun A B=>uI .i64 B fun B C=>unNil C (bif(decide (A>0))then(G 74 [.sl 1 g,.str ⟨#[]⟩,.sl 1 h,.int .i64 B] fun A=>uS A fun A C=>uI .i64 C fun C D=>unNil D (G 49 [.int .i64 2,.sl 1 h,.int .i64 C] fun C=>uI .i64 C fun C D=>uI .i64 D fun D E=>unNil E (bif(C==0)then(G 72 [.agg [.sl 1 b,.sl 1 c,.sl 1 d,.sl 1 e],.int .i64 2,.sl 1 h,.int .i64 D] fun C=>uL 8 C fun C E=>uI .i64 E fun E F=>unNil F (bif(decide (List.length p+1≤1073741824))then(X (IntKind.i64.wrap (a-1)) b c d e f g h E l m n o (p++[.agg [.str z,.sl 5 [],.str A,.sl 8 C,.int .i64 0]]) q r s t u v w x y)else none))else(bif(decide (List.length p+1≤1073741824))then(X (IntKind.i64.wrap (a-1)) b c d e f g h D l m n o (p++[.agg [.str z,.sl 5 [],.str A,.sl 8 [],.int .i64 0]]) q r s t u v w x y)else none))))else(G 49 [.int .i64 2,.sl 1 h,.int .i64 B] fun A=>uI .i64 A fun A B=>uI .i64 B fun B C=>unNil C (bif(A==0)then(G 72 [.agg [.sl 1 b,.sl 1 c,.sl 1 d,.sl 1 e],.int .i64 2,.sl 1 h,.int .i64 B] fun A=>uL 8 A fun A C=>uI .i64 C fun C D=>unNil D (bif(decide (List.length p+1≤1073741824))then(X (IntKind.i64.wrap (a-1)) b c d e f g h C l m n o (p++[.agg [.str z,.sl 5 [],.str ⟨#[]⟩,.sl 8 A,.int .i64 0]]) q r s t u v w x y)else none))else(bif(decide (List.length p+1≤1073741824))then(X (IntKind.i64.wrap (a-1)) b c d e f g h B l m n o (p++[.agg [.str z,.sl 5 [],.str ⟨#[]⟩,.sl 8 [],.int .i64 0]]) q r s t u v w x y)else none)))))))))))else(Ko b c d e f g h i l m n o p q r s t u v w x y))
def l54_0g{R:Type}(G:ORC R)(k:Nat)(Ko:Cu R J81)(j:Nat):Cu R J84:=lup J84 (fun X=>b54_0 G k X Ko) j
def l54_0{R:Type}(G:ORC R)(k:Nat)(a:Int)(b c d e:LV)(f:Int)(g h:LV)(i l:Int)(m:ByteArray)(n o p q:LV)(r s:Int)(t:ByteArray)(u v w x:LV)(y:Int)(Ko:Cu R J81):OV R:=l54_0g G k Ko k a b c d e f g h i l m n o p q r s t u v w x y
def b54_2{R:Type}(G:ORC R)(k:Nat)(X:Cu R J84)(Ko:Cu R J81)(a:Int)(b c d e:LV)(f:Int)(g h:LV)(i l:Int)(m:ByteArray)(n o p q:LV)(r s:Int)(t:ByteArray)(u v w x:LV)(y:Int):OV R:=
 (bif(decide (a<(q.length:Int)))then(bif((decide (0≤a))&&(decide (a<(q.length:Int))))then(nthK q (Int.toNat a) fun z=>V.asAgg z fun z=>G 54 [.agg z,.sl 1 b,.sl 1 c,.sl 1 d,.sl 1 e,.int .i64 f,.sl 1 g,.sl 1 h,.int .i64 i] fun z=>uA z fun z A=>uI .i64 z fun z B=>uS B fun B C=>uL 8 C fun C D=>uL 8 D fun D E=>uL 5 E fun E F=>uL 7 F fun F H=>uI .i64 H fun H I=>unNil I (uI .i64 A fun A I=>uI .i64 I fun I J=>unNil J (bif((decide (0≤a))&&(decide (a<((List.length (List.set q (Int.toNat a) .undef):Nat):Int))))then(nthK (List.set q (Int.toNat a) .undef) (Int.toNat a) fun J=>X (IntKind.i64.wrap (a+1)) b c d e A g h I l m n o p (List.set (List.set q (Int.toNat a) .undef) (Int.toNat a) (.agg [.int .i64 z,.str B,.sl 8 C,.sl 8 D,.sl 5 E,.sl 7 F,.int .i64 H])) r s t u v w x y)else none)))else none)else(Ko b c d e f g h i l m n o p q r s t u v w x y))
def l54_2g{R:Type}(G:ORC R)(k:Nat)(Ko:Cu R J81)(j:Nat):Cu R J84:=lup J84 (fun X=>b54_2 G k X Ko) j
def l54_2{R:Type}(G:ORC R)(k:Nat)(a:Int)(b c d e:LV)(f:Int)(g h:LV)(i l:Int)(m:ByteArray)(n o p q:LV)(r s:Int)(t:ByteArray)(u v w x:LV)(y:Int)(Ko:Cu R J81):OV R:=l54_2g G k Ko k a b c d e f g h i l m n o p q r s t u v w x y
def L54{R:Type}(G:ORC R)(k:Nat):Nat→St→(Ex→St→OV R)→OV R
 |0,S,K=>P54_0h.mat S fun vs=>uc J84 (l54_0g G k (koX J81 P54_0x K) k) vs none
 |2,S,K=>P54_2h.mat S fun vs=>uc J84 (l54_2g G k (koX J81 P54_2x K) k) vs none
 |_,_,_=>none
def f54{R:Type}(G:ORC R)(k:Nat)(a:Int)(b:ByteArray)(c d e f:LV)(g:Int)(h i l m:LV)(n:Int)(o p:LV)(q:Int)(K:LV→OV R):OV R:=
 (bif(decide (a>2))then(K [.agg [.int .i64 a,.str b,.sl 8 c,.sl 8 d,.sl 5 e,.sl 7 f,.int .i64 g],.int .i64 n,.int .i64 q])else(G 49 [.int .i64 3,.sl 1 p,.int .i64 q] fun q=>uI .i64 q fun q r=>uI .i64 r fun r s=>unNil s (bif(q==0)then(G 72 [.agg [.sl 1 h,.sl 1 i,.sl 1 l,.sl 1 m],.int .i64 1,.sl 1 p,.int .i64 r] fun q=>uL 8 q fun q s=>uI .i64 s fun s t=>unNil t (G 49 [.int .i64 4,.sl 1 p,.int .i64 s] fun s=>uI .i64 s fun s t=>uI .i64 t fun t u=>unNil u (bif(s==0)then(G 72 [.agg [.sl 1 h,.sl 1 i,.sl 1 l,.sl 1 m],.int .i64 1,.sl 1 p,.int .i64 t] fun s=>uL 8 s fun s u=>uI .i64 u fun u v=>unNil v (G 49 [.int .i64 3,.sl 1 p,.int .i64 u] fun u=>uI .i64 u fun u v=>uI .i64 v fun v w=>unNil w (l54_0 G k u h i l m n o p v a b q s e f g 0 ⟨#[]⟩ [] [] [] [] 0 (fun s u v w x y z A B C D E F H I J L M N O P Q=>l54_2 G k 0 s u v w x y z A B C D E F H I J L M N O P Q (fun s u v w s u v w x u v y z A B C D E F C D E=>K [.agg [.int .i64 x,.str u,.sl 8 v,.sl 8 y,.sl 5 z,.sl 7 A,.int .i64 B],.int .i64 s,.int .i64 w])))))else(G 49 [.int .i64 3,.sl 1 p,.int .i64 t] fun s=>uI .i64 s fun s t=>uI .i64 t fun t u=>unNil u (l54_0 G k s h i l m n o p t a b q d e f g 0 ⟨#[]⟩ [] [] [] [] 0 (fun q s t u v w x y z A B C D E F H I J L M N O=>l54_2 G k 0 q s t u v w x y z A B C D E F H I J L M N O (fun q s t u q s t u v s t w x y z A B C D A B C=>K [.agg [.int .i64 v,.str s,.sl 8 t,.sl 8 w,.sl 5 x,.sl 7 y,.int .i64 z],.int .i64 q,.int .i64 u])))))))else(G 49 [.int .i64 4,.sl 1 p,.int .i64 r] fun q=>uI .i64 q fun q r=>uI .i64 r fun r s=>unNil s (bif(q==0)then(G 72 [.agg [.sl 1 h,.sl 1 i,.sl 1 l,.sl 1 m],.int .i64 1,.sl 1 p,.int .i64 r] fun q=>uL 8 q fun q s=>uI .i64 s fun s t=>unNil t (G 49 [.int .i64 3,.sl 1 p,.int .i64 s] fun s=>uI .i64 s fun s t=>uI .i64 t fun t u=>unNil u (l54_0 G k s h i l m n o p t a b c q e f g 0 ⟨#[]⟩ [] [] [] [] 0 (fun q s t u v w x y z A B C D E F H I J L M N O=>l54_2 G k 0 q s t u v w x y z A B C D E F H I J L M N O (fun q s t u q s t u v s t w x y z A B C D A B C=>K [.agg [.int .i64 v,.str s,.sl 8 t,.sl 8 w,.sl 5 x,.sl 7 y,.int .i64 z],.int .i64 q,.int .i64 u])))))else(G 49 [.int .i64 3,.sl 1 p,.int .i64 r] fun q=>uI .i64 q fun q r=>uI .i64 r fun r s=>unNil s (l54_0 G k q h i l m n o p r a b c d e f g 0 ⟨#[]⟩ [] [] [] [] 0 (fun a b c d e f g h i l m n o p q r s t u v w x=>l54_2 G k 0 a b c d e f g h i l m n o p q r s t u v w x (fun a b c d a b c d e b c f g h i l m n o l m n=>K [.agg [.int .i64 e,.str b,.sl 8 c,.sl 8 f,.sl 5 g,.sl 7 h,.int .i64 i],.int .i64 a,.int .i64 d])))))))))
abbrev g54 {R:Type} (G:ORC R) (k:Nat):LV→(LV→OV R)→OV R:=gF J85 (f54 G k)
theorem s54{R:Type}{G:ORC R}{k:Nat}(hG:Sound Tryz.prog TAB G):TL 54 (g54 G k):=
 gG J85 (by kernel_rfl) (callF_sound (L:=L54 G k) (f:=54) TAB_chk MO hG Tryz.func54 (sg:=S54) (by kernel_rfl) (by kernel_rfl) (las [0,2] (by kernel_rfl) ⟨loopIs J84 k (fun K X=>b54_0 G k X (koX J81 P54_0x K)) P54_0h P54_0x default (by kernel_rfl) (by kernel_rfl) (by kernel_rfl) (fun K X=>by kernel_rfl) (fun S K=>by kernel_rfl),loopIs J84 k (fun K X=>b54_2 G k X (koX J81 P54_2x K)) P54_2h P54_2x default (by kernel_rfl) (by kernel_rfl) (by kernel_rfl) (fun K X=>by kernel_rfl) (fun S K=>by kernel_rfl),trivial⟩))
def P24_0h:Pat:={tmps:=unds [] 6 (unds [pS 7,pS 18,pS 9,pI] 133 []),boxes:=nons [some B7] 6 (nons [some B8,none,some B9] 8 (nons [some B10] 125 []))}
def P24_0x:Pat:={tmps:=unds [] 6 (unds [pS 7,pS 18,pS 9] 134 []),boxes:=nons [some B7] 6 (nons [some B8,none,some B9] 8 (nons [some B10] 125 []))}
def P24_2h:Pat:={tmps:=unds [] 6 (unds [pS 7,pS 18,pS 9,pU,pI] 132 []),boxes:=nons [some B7] 6 (nons [some B8,none,some B9] 8 (nons [some B10] 125 []))}
def P24_2x:Pat:={tmps:=unds [] 6 (unds [pS 7,pS 18,pS 9] 134 []),boxes:=nons [some B7] 6 (nons [some B8,none,some B9] 8 (nons [some B10] 125 []))}
def P24_4h:Pat:={tmps:=unds [] 6 (unds [pS 7,pS 18,pS 9,pU,pU,pI] 131 []),boxes:=nons [some B7] 6 (nons [some B8,none,some B9] 8 (nons [some B10] 125 []))}
def P24_4x:Pat:={tmps:=unds [] 6 (unds [pS 7,pU,pS 9] 134 []),boxes:=nons [some B7] 6 (nons [some B8,none,some B9] 134 [])}
def b24_0{R:Type}(G:ORC R)(k:Nat)(X:Cu R J34)(Ko:Cu R J33)(a:Int)(b:LV)(c:Int)(d:ByteArray)(e f:Int)(g h i l:LV)(m:Int)(n:ByteArray)(o p:Int)(q r s t:LV)(u:Int)(v w x y:LV)(z:Int)(A:LV):OV R:=
 (bif(decide (a>0))then(bif(decide (z>0))then(G 53 [.int .i64 2,.bool false,.sl 1 v,.sl 1 w,.sl 1 x,.sl 1 y,.int .i64 z,.sl 1 A,.sl 1 b,.int .i64 c] fun B=>uA B fun B C=>uI .i64 B fun B D=>uS D fun D E=>uL 8 E fun E F=>uL 8 F fun F H=>uL 5 H fun H I=>uL 7 I fun I J=>uI .i64 J fun J L=>unNil L (uI .i64 C fun C L=>uL 1 L fun L M=>uI .i64 M fun M N=>unNil N (bif(decide (List.length t+1≤1073741824))then(X (IntKind.i64.wrap (a-1)) b M d e f g h i l m n o p q r s (t++[.agg [.int .i64 B,.str D,.sl 8 E,.sl 8 F,.sl 5 H,.sl 7 I,.int .i64 J]]) u v w x y C L)else none)))else(bif((t.length:Int)==0)then(G 53 [.int .i64 2,.bool false,.sl 1 v,.sl 1 w,.sl 1 x,.sl 1 y,.int .i64 z,.sl 1 A,.sl 1 b,.int .i64 c] fun B=>uA B fun B C=>uI .i64 B fun B D=>uS D fun D E=>uL 8 E fun E F=>uL 8 F fun F H=>uL 5 H fun H I=>uL 7 I fun I J=>uI .i64 J fun J L=>unNil L (uI .i64 C fun C L=>uL 1 L fun L M=>uI .i64 M fun M N=>unNil N (bif(decide (List.length t+1≤1073741824))then(X (IntKind.i64.wrap (a-1)) b M d e f g h i l m n o p q r s (t++[.agg [.int .i64 B,.str D,.sl 8 E,.sl 8 F,.sl 5 H,.sl 7 I,.int .i64 J]]) u v w x y C L)else none)))else(Ko b c d e f g h i l m n o p q r s t u v w x y z A)))else(Ko b c d e f g h i l m n o p q r s t u v w x y z A))
def l24_0g{R:Type}(G:ORC R)(k:Nat)(Ko:Cu R J33)(j:Nat):Cu R J34:=lup J34 (fun X=>b24_0 G k X Ko) j
def l24_0{R:Type}(G:ORC R)(k:Nat)(a:Int)(b:LV)(c:Int)(d:ByteArray)(e f:Int)(g h i l:LV)(m:Int)(n:ByteArray)(o p:Int)(q r s t:LV)(u:Int)(v w x y:LV)(z:Int)(A:LV)(Ko:Cu R J33):OV R:=l24_0g G k Ko k a b c d e f g h i l m n o p q r s t u v w x y z A
def b24_2{R:Type}(G:ORC R)(k:Nat)(X:Cu R J34)(Ko:Cu R J33)(a:Int)(b:LV)(c:Int)(d:ByteArray)(e f:Int)(g h i l:LV)(m:Int)(n:ByteArray)(o p:Int)(q r s t:LV)(u:Int)(v w x y:LV)(z:Int)(A:LV):OV R:=
 (bif(decide (a<(A.length:Int)))then(bif((decide (0≤a))&&(decide (a<(A.length:Int))))then(nthK A (Int.toNat a) fun B=>V.asStr B fun B=>bif(decide (0<((ByteArray.size B:Nat):Int)))then(bif(((List.getD B.data.toList 0 0).toNat:Int)==115)then(bif((decide (0≤a))&&(decide (a<(A.length:Int))))then(nthK A (Int.toNat a) fun B=>V.asStr B fun B=>bif(decide (List.length y+1≤1073741824))then(X (IntKind.i64.wrap (a+1)) b c d e f g h i l m n o p q r s t u v w x (y++[.str B]) z A)else none)else none)else(X (IntKind.i64.wrap (a+1)) b c d e f g h i l m n o p q r s t u v w x y z A))else none)else none)else(Ko b c d e f g h i l m n o p q r s t u v w x y z A))
def l24_2g{R:Type}(G:ORC R)(k:Nat)(Ko:Cu R J33)(j:Nat):Cu R J34:=lup J34 (fun X=>b24_2 G k X Ko) j
def l24_2{R:Type}(G:ORC R)(k:Nat)(a:Int)(b:LV)(c:Int)(d:ByteArray)(e f:Int)(g h i l:LV)(m:Int)(n:ByteArray)(o p:Int)(q r s t:LV)(u:Int)(v w x y:LV)(z:Int)(A:LV)(Ko:Cu R J33):OV R:=l24_2g G k Ko k a b c d e f g h i l m n o p q r s t u v w x y z A
def b24_4{R:Type}(G:ORC R)(k:Nat)(X:Cu R J34)(Ko:Cu R J35)(a:Int)(b:LV)(c:Int)(d:ByteArray)(e f:Int)(g h i l:LV)(m:Int)(n:ByteArray)(o p:Int)(q r s t:LV)(u:Int)(v w x y:LV)(z:Int)(A:LV):OV R:=
 (bif(decide (a<(t.length:Int)))then(bif((decide (0≤a))&&(decide (a<(t.length:Int))))then(nthK t (Int.toNat a) fun B=>V.asAgg B fun B=>G 54 [.agg B,.sl 1 v,.sl 1 w,.sl 1 x,.sl 1 y,.int .i64 z,.sl 1 A,.sl 1 b,.int .i64 c] fun z=>uA z fun z B=>uI .i64 z fun z C=>uS C fun C D=>uL 8 D fun D E=>uL 8 E fun E F=>uL 5 F fun F H=>uL 7 H fun H I=>uI .i64 I fun I J=>unNil J (uI .i64 B fun B J=>uI .i64 J fun J L=>unNil L (bif((decide (0≤a))&&(decide (a<((List.length (List.set t (Int.toNat a) .undef):Nat):Int))))then(nthK (List.set t (Int.toNat a) .undef) (Int.toNat a) fun L=>X (IntKind.i64.wrap (a+1)) b J d e f g h i l m n o p q r s (List.set (List.set t (Int.toNat a) .undef) (Int.toNat a) (.agg [.int .i64 z,.str C,.sl 8 D,.sl 8 E,.sl 5 F,.sl 7 H,.int .i64 I])) u v w x y B A)else none)))else none)else(Ko b c d e f g h i l m n o p q r s t u))
def l24_4g{R:Type}(G:ORC R)(k:Nat)(Ko:Cu R J35)(j:Nat):Cu R J34:=lup J34 (fun X=>b24_4 G k X Ko) j
def l24_4{R:Type}(G:ORC R)(k:Nat)(a:Int)(b:LV)(c:Int)(d:ByteArray)(e f:Int)(g h i l:LV)(m:Int)(n:ByteArray)(o p:Int)(q r s t:LV)(u:Int)(v w x y:LV)(z:Int)(A:LV)(Ko:Cu R J35):OV R:=l24_4g G k Ko k a b c d e f g h i l m n o p q r s t u v w x y z A
def L24{R:Type}(G:ORC R)(k:Nat):Nat→St→(Ex→St→OV R)→OV R
 |0,S,K=>P24_0h.mat S fun vs=>uc J34 (l24_0g G k (koX J33 P24_0x K) k) vs none
 |2,S,K=>P24_2h.mat S fun vs=>uc J34 (l24_2g G k (koX J33 P24_2x K) k) vs none
 |4,S,K=>P24_4h.mat S fun vs=>uc J34 (l24_4g G k (koX J35 P24_4x K) k) vs none
 |_,_,_=>none
def f24{R:Type}(G:ORC R)(k:Nat)(a:ByteArray)(b:Int)(c:LV)(d:Int)(K:LV→OV R):OV R:=
 (G 49 [.int .i64 8,.sl 1 c,.int .i64 d] fun d=>uI .i64 d fun d e=>uI .i64 e fun e f=>unNil f (G 49 [.int .i64 3,.sl 1 c,.int .i64 e] fun e=>uI .i64 e fun e f=>uI .i64 f fun f g=>unNil g (G 50 [.str ⟨#[118]⟩,.int .i64 e] fun e=>uL 1 e fun e g=>unNil g (G 50 [.str ⟨#[112]⟩,.int .i64 b] fun b=>uL 1 b fun b g=>unNil g (G 49 [.int .i64 3,.sl 1 c,.int .i64 f] fun f=>uI .i64 f fun f g=>uI .i64 g fun g h=>unNil h (G 50 [.str ⟨#[116]⟩,.int .i64 f] fun f=>uL 1 f fun f h=>unNil h (G 49 [.int .i64 5,.sl 1 c,.int .i64 g] fun g=>uI .i64 g fun g h=>uI .i64 h fun h i=>unNil i (G 49 [.int .i64 4,.sl 1 c,.int .i64 h] fun h=>uI .i64 h fun h i=>uI .i64 i fun i l=>unNil l (bif((decide (0≤h))&&(decide (h<4)))then(nthK [.int .i64 40,.int .i64 12,.int .i64 4,.int .i64 200] (Int.toNat h) fun h=>aI .i64 h fun h=>G 51 [.sl 1 e,.sl 1 c,.int .i64 i] fun i=>uL 3 i fun i l=>uI .i64 l fun l m=>unNil m (G 52 [.sl 1 b] fun m=>uL 3 m fun m n=>unNil n (G 52 [.sl 1 f] fun n=>uL 3 n fun n o=>unNil o (G 49 [.int .i64 2,.sl 1 c,.int .i64 l] fun l=>uI .i64 l fun l o=>uI .i64 o fun o p=>unNil p (l24_0 G k (IntKind.i64.wrap (1+l)) c o ⟨#[]⟩ 0 0 [] [] [] [] 0 a (IntKind.i64.wrap (2+g)) h i m n [] 0 e b f [] (IntKind.i64.wrap (2+d)) [] (fun a b c d e f g h i l m n o p q r s t u v w x y z=>l24_2 G k 0 a b c d e f g h i l m n o p q r s t u v w x y z (fun a b c d e f g h i l m n o p q r s t u v w x y z=>l24_4 G k 0 a b c d e f g h i l m n o p q r s t u v w x y z (fun a b c d a e c d a e c d a e f g h i=>K [.agg [.str c,.int .i64 d,.int .i64 a,.sl 3 e,.sl 3 f,.sl 3 g,.sl 7 h,.int .i64 i],.int .i64 b]))))))))else none)))))))))
abbrev g24 {R:Type} (G:ORC R) (k:Nat):LV→(LV→OV R)→OV R:=gF J36 (f24 G k)
theorem s24{R:Type}{G:ORC R}{k:Nat}(hG:Sound Tryz.prog TAB G):TL 24 (g24 G k):=
 gG J36 (by kernel_rfl) (callF_sound (L:=L24 G k) (f:=24) TAB_chk MO hG Tryz.func24 (sg:=S24) (by kernel_rfl) (by kernel_rfl) (las [0,2,4] (by kernel_rfl) ⟨loopIs J34 k (fun K X=>b24_0 G k X (koX J33 P24_0x K)) P24_0h P24_0x default (by kernel_rfl) (by kernel_rfl) (by kernel_rfl) (fun K X=>by kernel_rfl) (fun S K=>by kernel_rfl),loopIs J34 k (fun K X=>b24_2 G k X (koX J33 P24_2x K)) P24_2h P24_2x default (by kernel_rfl) (by kernel_rfl) (by kernel_rfl) (fun K X=>by kernel_rfl) (fun S K=>by kernel_rfl),loopIs J34 k (fun K X=>b24_4 G k X (koX J35 P24_4x K)) P24_4h P24_4x default (by kernel_rfl) (by kernel_rfl) (by kernel_rfl) (fun K X=>by kernel_rfl) (fun S K=>by kernel_rfl),trivial⟩))
def f88{R:Type}(G:ORC R)(k:Nat)(a:Int)(b:ByteArray)(b c d e:LV)(b:Int)(K:LV→OV R):OV R:=
 (bif(a==3)then(K [.int .i64 4])else(bif(a==4)then(K [.int .i64 5])else(bif(a==2)then(K [.int .i64 3])else(bif((e.length:Int)==0)then(K [.int .i64 1])else(K [.int .i64 2])))))
abbrev g88 {R:Type} (G:ORC R) (k:Nat):LV→(LV→OV R)→OV R:=gF J125 (f88 G k)
theorem s88{R:Type}{G:ORC R}{k:Nat}(hG:Sound Tryz.prog TAB G):TL 88 (g88 G k):=
 gG J125 (by kernel_rfl) (callF_sound (L:=fun _ _ _=>none) (f:=88) TAB_chk MO hG Tryz.func88 (sg:=S88) (by kernel_rfl) (by kernel_rfl) (las [] (by kernel_rfl) trivial))
def f89{R:Type}(G:ORC R)(k:Nat)(a b c d e b:Int)(b:ByteArray)(K:LV→OV R):OV R:=
 (K [.bool (decide (a≤3))])
abbrev g89 {R:Type} (G:ORC R) (k:Nat):LV→(LV→OV R)→OV R:=gF J118 (f89 G k)
theorem s89{R:Type}{G:ORC R}{k:Nat}(hG:Sound Tryz.prog TAB G):TL 89 (g89 G k):=
 gG J118 (by kernel_rfl) (callF_sound (L:=fun _ _ _=>none) (f:=89) TAB_chk MO hG Tryz.func89 (sg:=S89) (by kernel_rfl) (by kernel_rfl) (las [] (by kernel_rfl) trivial))
def P66_0h:Pat:={tmps:=unds [.var (.sl 7) (.own true),.var (.sl 7) .ro,pI,pU,pU,pU,pU,pI] 66 [],boxes:=nons [] 74 []}
def P66_0x:Pat:={tmps:=unds [.var (.sl 7) (.own true)] 73 [],boxes:=nons [] 74 []}
def b66_0{R:Type}(G:ORC R)(k:Nat)(X:Cu R J101)(Ko:Cu R J52)(a b:LV)(c d:Int):OV R:=
 (bif(decide (d<(b.length:Int)))then(bif((decide (0≤d))&&(decide (d<(b.length:Int))))then(nthK b (Int.toNat d) fun e=>V.asAgg e fun e=>G 88 [.agg e] fun e=>uI .i64 e fun e f=>unNil f (bif((decide (0≤d))&&(decide (d<(b.length:Int))))then(nthK b (Int.toNat d) fun f=>ca7 f fun f g h i f l h=>V.asStr g fun f=>bif(decide (List.length a+1≤1073741824))then(bif((decide (0≤c))&&(decide (c<((List.length (a++[.agg [.int .i64 e,.int .i64 c,.int .i64 0,.int .i64 (-1),.int .i64 (-1),.int .i64 (-1),.str f]]):Nat):Int))))then(nthK (a++[.agg [.int .i64 e,.int .i64 c,.int .i64 0,.int .i64 (-1),.int .i64 (-1),.int .i64 (-1),.str f]]) (Int.toNat c) fun g=>ca7 g fun g h i l g h i=>aI .i64 l fun g=>bif(decide (g<0))then(bif((decide (0≤c))&&(decide (c<((List.length (a++[.agg [.int .i64 e,.int .i64 c,.int .i64 0,.int .i64 (-1),.int .i64 (-1),.int .i64 (-1),.str f]]):Nat):Int))))then(nthK (a++[.agg [.int .i64 e,.int .i64 c,.int .i64 0,.int .i64 (-1),.int .i64 (-1),.int .i64 (-1),.str f]]) (Int.toNat c) fun g=>ca7 g fun g h i l m h i=>aI .i64 g fun g=>bif(g==2)then(bif((decide (0≤(a.length:Int)))&&(decide ((a.length:Int)<((List.length (a++[.agg [.int .i64 e,.int .i64 c,.int .i64 0,.int .i64 (-1),.int .i64 (-1),.int .i64 (-1),.str f]]):Nat):Int))))then(nthK (a++[.agg [.int .i64 e,.int .i64 c,.int .i64 0,.int .i64 (-1),.int .i64 (-1),.int .i64 (-1),.str f]]) (Int.toNat (a.length:Int)) fun g=>ca7 g fun g h i l m n o=>aI .i64 g fun g=>aI .i64 h fun h=>aI .i64 i fun i=>aI .i64 l fun l=>aI .i64 m fun m=>aI .i64 n fun n=>V.asStr o fun o=>G 89 [.agg [.int .i64 g,.int .i64 h,.int .i64 i,.int .i64 l,.int .i64 m,.int .i64 n,.str o]] fun g=>uB g fun g h=>unNil h (bif g then(bif((decide (0≤c))&&(decide (c<((List.length (a++[.agg [.int .i64 e,.int .i64 c,.int .i64 0,.int .i64 (-1),.int .i64 (-1),.int .i64 (-1),.str f]]):Nat):Int))))then(nthK (a++[.agg [.int .i64 e,.int .i64 c,.int .i64 0,.int .i64 (-1),.int .i64 (-1),.int .i64 (-1),.str f]]) (Int.toNat c) fun g=>ca7 g fun g h i l m n o=>bif((decide (0≤d))&&(decide (d<(b.length:Int))))then(nthK b (Int.toNat d) fun l=>ca7 l fun l p q r l p q=>V.asSl p fun l p=>G 66 [.sl 7 (List.set (a++[.agg [.int .i64 e,.int .i64 c,.int .i64 0,.int .i64 (-1),.int .i64 (-1),.int .i64 (-1),.str f]]) (Int.toNat c) (.agg [g,h,i,.int .i64 (a.length:Int),m,n,o])),.sl l p,.int .i64 (a.length:Int)] fun g=>uL 7 g fun g h=>unNil h (bif((decide (0≤(a.length:Int)))&&(decide ((a.length:Int)<(g.length:Int))))then(nthK g (Int.toNat (a.length:Int)) fun h=>ca7 h fun h i l m n o l=>X (List.set g (Int.toNat (a.length:Int)) (.agg [h,i,.int .i64 (IntKind.i64.wrap ((g.length:Int)-1)),m,n,o,l])) b c (IntKind.i64.wrap (d+1)))else none))else none)else none)else(bif((decide (0≤d))&&(decide (d<(b.length:Int))))then(nthK b (Int.toNat d) fun g=>ca7 g fun g h i l g h i=>V.asSl h fun g h=>G 66 [.sl 7 (a++[.agg [.int .i64 e,.int .i64 c,.int .i64 0,.int .i64 (-1),.int .i64 (-1),.int .i64 (-1),.str f]]),.sl g h,.int .i64 (a.length:Int)] fun g=>uL 7 g fun g h=>unNil h (bif((decide (0≤(a.length:Int)))&&(decide ((a.length:Int)<(g.length:Int))))then(nthK g (Int.toNat (a.length:Int)) fun h=>ca7 h fun h i l m n o l=>X (List.set g (Int.toNat (a.length:Int)) (.agg [h,i,.int .i64 (IntKind.i64.wrap ((g.length:Int)-1)),m,n,o,l])) b c (IntKind.i64.wrap (d+1)))else none))else none)))else none)else(bif((decide (0≤d))&&(decide (d<(b.length:Int))))then(nthK b (Int.toNat d) fun g=>ca7 g fun g h i l g h i=>V.asSl h fun g h=>G 66 [.sl 7 (a++[.agg [.int .i64 e,.int .i64 c,.int .i64 0,.int .i64 (-1),.int .i64 (-1),.int .i64 (-1),.str f]]),.sl g h,.int .i64 (a.length:Int)] fun g=>uL 7 g fun g h=>unNil h (bif((decide (0≤(a.length:Int)))&&(decide ((a.length:Int)<(g.length:Int))))then(nthK g (Int.toNat (a.length:Int)) fun h=>ca7 h fun h i l m n o l=>X (List.set g (Int.toNat (a.length:Int)) (.agg [h,i,.int .i64 (IntKind.i64.wrap ((g.length:Int)-1)),m,n,o,l])) b c (IntKind.i64.wrap (d+1)))else none))else none))else none)else(bif((decide (0≤d))&&(decide (d<(b.length:Int))))then(nthK b (Int.toNat d) fun g=>ca7 g fun g h i l g h i=>V.asSl h fun g h=>G 66 [.sl 7 (a++[.agg [.int .i64 e,.int .i64 c,.int .i64 0,.int .i64 (-1),.int .i64 (-1),.int .i64 (-1),.str f]]),.sl g h,.int .i64 (a.length:Int)] fun e=>uL 7 e fun e f=>unNil f (bif((decide (0≤(a.length:Int)))&&(decide ((a.length:Int)<(e.length:Int))))then(nthK e (Int.toNat (a.length:Int)) fun f=>ca7 f fun f g h i l m h=>X (List.set e (Int.toNat (a.length:Int)) (.agg [f,g,.int .i64 (IntKind.i64.wrap ((e.length:Int)-1)),i,l,m,h])) b c (IntKind.i64.wrap (d+1)))else none))else none))else none)else none)else none))else none)else(Ko a))
def l66_0g{R:Type}(G:ORC R)(k:Nat)(Ko:Cu R J52)(j:Nat):Cu R J101:=lup J101 (fun X=>b66_0 G k X Ko) j
def l66_0{R:Type}(G:ORC R)(k:Nat)(a b:LV)(c d:Int)(Ko:Cu R J52):OV R:=l66_0g G k Ko k a b c d
def L66{R:Type}(G:ORC R)(k:Nat):Nat→St→(Ex→St→OV R)→OV R
 |0,S,K=>P66_0h.mat S fun vs=>uc J101 (l66_0g G k (koX J52 P66_0x K) k) vs none
 |_,_,_=>none
def f66{R:Type}(G:ORC R)(k:Nat)(a b:LV)(c:Int)(K:LV→OV R):OV R:=
 (l66_0 G k a b c 0 (fun a=>K [.sl 7 a]))
abbrev g66 {R:Type} (G:ORC R) (k:Nat):LV→(LV→OV R)→OV R:=gF J102 (f66 G k)
theorem s66{R:Type}{G:ORC R}{k:Nat}(hG:Sound Tryz.prog TAB G):TL 66 (g66 G k):=
 gG J102 (by kernel_rfl) (callF_sound (L:=L66 G k) (f:=66) TAB_chk MO hG Tryz.func66 (sg:=S66) (by kernel_rfl) (by kernel_rfl) (las [0] (by kernel_rfl) ⟨loopIs J101 k (fun K X=>b66_0 G k X (koX J52 P66_0x K)) P66_0h P66_0x default (by kernel_rfl) (by kernel_rfl) (by kernel_rfl) (fun K X=>by kernel_rfl) (fun S K=>by kernel_rfl),trivial⟩))
def f47{R:Type}(G:ORC R)(k:Nat)(a:ByteArray)(a b:Int)(a b c d:LV)(a:Int)(K:LV→OV R):OV R:=
 (G 66 [.sl 7 [.agg [.int .i64 2,.int .i64 (-1),.int .i64 0,.int .i64 (-1),.int .i64 (-1),.int .i64 (-1),.str ⟨#[]⟩]],.sl 7 d,.int .i64 0] fun a=>uL 7 a fun a b=>unNil b (bif(decide (0<(a.length:Int)))then(nthK a 0 fun b=>ca7 b fun b c d e f g d=>K [.sl 7 (List.set a 0 (.agg [b,c,.int .i64 (IntKind.i64.wrap ((a.length:Int)-1)),e,f,g,d]))])else none))
abbrev g47 {R:Type} (G:ORC R) (k:Nat):LV→(LV→OV R)→OV R:=gF J32 (f47 G k)
theorem s47{R:Type}{G:ORC R}{k:Nat}(hG:Sound Tryz.prog TAB G):TL 47 (g47 G k):=
 gG J32 (by kernel_rfl) (callF_sound (L:=fun _ _ _=>none) (f:=47) TAB_chk MO hG Tryz.func47 (sg:=S47) (by kernel_rfl) (by kernel_rfl) (las [] (by kernel_rfl) trivial))
def f91{R:Type}(G:ORC R)(k:Nat)(a:LV)(b:Int)(K:LV→OV R):OV R:=
 (bif(decide (b≥0))then(K [.bool (decide (b<(a.length:Int)))])else(K [.bool false]))
abbrev g91 {R:Type} (G:ORC R) (k:Nat):LV→(LV→OV R)→OV R:=gF J117 (f91 G k)
theorem s91{R:Type}{G:ORC R}{k:Nat}(hG:Sound Tryz.prog TAB G):TL 91 (g91 G k):=
 gG J117 (by kernel_rfl) (callF_sound (L:=fun _ _ _=>none) (f:=91) TAB_chk MO hG Tryz.func91 (sg:=S91) (by kernel_rfl) (by kernel_rfl) (las [] (by kernel_rfl) trivial))
def f79{R:Type}(G:ORC R)(k:Nat)(a:LV)(b c:Int)(K:LV→OV R):OV R:=
 (G 91 [.sl 7 a,.int .i64 b] fun d=>uB d fun d e=>unNil e (bif d then(G 91 [.sl 7 a,.int .i64 c] fun d=>uB d fun d e=>unNil e (bif d then(bif(decide (b≥c))then(bif((decide (0≤c))&&(decide (c<(a.length:Int))))then(nthK a (Int.toNat c) fun a=>ca7 a fun a c d e a c f=>aI .i64 d fun a=>K [.bool (decide (b≤a))])else none)else(K [.bool false]))else(K [.bool false])))else(K [.bool false])))
abbrev g79 {R:Type} (G:ORC R) (k:Nat):LV→(LV→OV R)→OV R:=gF J107 (f79 G k)
theorem s79{R:Type}{G:ORC R}{k:Nat}(hG:Sound Tryz.prog TAB G):TL 79 (g79 G k):=
 gG J107 (by kernel_rfl) (callF_sound (L:=fun _ _ _=>none) (f:=79) TAB_chk MO hG Tryz.func79 (sg:=S79) (by kernel_rfl) (by kernel_rfl) (las [] (by kernel_rfl) trivial))
def P69_0h:Pat:={tmps:=unds [.var (.sl 7) .ro,pI,pI,pU,pU,pU,pU,pI,pI] 46 [],boxes:=nons [] 55 []}
def P69_0x:Pat:={tmps:=unds [] 7 (unds [pI] 47 []),boxes:=nons [] 55 []}
def b69_0{R:Type}(G:ORC R)(k:Nat)(X:Cu R J106)(Ko:Cu R J5)(a:LV)(b c d e:Int):OV R:=
 (bif(decide (e<(a.length:Int)))then(bif((decide (0≤e))&&(decide (e<(a.length:Int))))then(nthK a (Int.toNat e) fun f=>ca7 f fun f g h i l g h=>aI .i64 f fun f=>bif(f==2)then(bif(e !=b)then(bif(e !=c)then(G 79 [.sl 7 a,.int .i64 b,.int .i64 e] fun f=>uB f fun f g=>unNil g (bif f then(G 79 [.sl 7 a,.int .i64 c,.int .i64 e] fun f=>uB f fun f g=>unNil g (bif f then(X a b c e (IntKind.i64.wrap (e+1)))else(X a b c d (IntKind.i64.wrap (e+1)))))else(X a b c d (IntKind.i64.wrap (e+1)))))else(X a b c d (IntKind.i64.wrap (e+1))))else(X a b c d (IntKind.i64.wrap (e+1))))else(X a b c d (IntKind.i64.wrap (e+1))))else none)else(Ko d))
def l69_0g{R:Type}(G:ORC R)(k:Nat)(Ko:Cu R J5)(j:Nat):Cu R J106:=lup J106 (fun X=>b69_0 G k X Ko) j
def l69_0{R:Type}(G:ORC R)(k:Nat)(a:LV)(b c d e:Int)(Ko:Cu R J5):OV R:=l69_0g G k Ko k a b c d e
def L69{R:Type}(G:ORC R)(k:Nat):Nat→St→(Ex→St→OV R)→OV R
 |0,S,K=>P69_0h.mat S fun vs=>uc J106 (l69_0g G k (koX J5 P69_0x K) k) vs none
 |_,_,_=>none
def f69{R:Type}(G:ORC R)(k:Nat)(a:LV)(b c:Int)(K:LV→OV R):OV R:=
 (G 91 [.sl 7 a,.int .i64 b] fun d=>uB d fun d e=>unNil e (bif(!d)then(K [.int .i64 (-1)])else(G 91 [.sl 7 a,.int .i64 c] fun d=>uB d fun d e=>unNil e (bif(!d)then(K [.int .i64 (-1)])else(l69_0 G k a b c (-1) 0 (fun a=>K [.int .i64 a]))))))
abbrev g69 {R:Type} (G:ORC R) (k:Nat):LV→(LV→OV R)→OV R:=gF J107 (f69 G k)
theorem s69{R:Type}{G:ORC R}{k:Nat}(hG:Sound Tryz.prog TAB G):TL 69 (g69 G k):=
 gG J107 (by kernel_rfl) (callF_sound (L:=L69 G k) (f:=69) TAB_chk MO hG Tryz.func69 (sg:=S69) (by kernel_rfl) (by kernel_rfl) (las [0] (by kernel_rfl) ⟨loopIs J106 k (fun K X=>b69_0 G k X (koX J5 P69_0x K)) P69_0h P69_0x default (by kernel_rfl) (by kernel_rfl) (by kernel_rfl) (fun K X=>by kernel_rfl) (fun S K=>by kernel_rfl),trivial⟩))
def P113_0h:Pat:={tmps:=unds [.var (.sl 7) .ro,pI,pU,pU,pU,.var (.sl 1) (.own true),pI] 23 [],boxes:=nons [] 30 []}
def P113_0x:Pat:={tmps:=unds [] 5 (unds [.var (.sl 1) (.own true)] 24 []),boxes:=nons [] 30 []}
def b113_0{R:Type}(G:ORC R)(k:Nat)(X:Cu R J137)(Ko:Cu R J4)(a:LV)(b:Int)(c:LV)(d:Int):OV R:=
 (bif(decide (d<(a.length:Int)))then(G 91 [.sl 7 a,.int .i64 b] fun e=>uB e fun e f=>unNil f (bif e then(bif((decide (0≤d))&&(decide (d<(a.length:Int))))then(nthK a (Int.toNat d) fun e=>ca7 e fun e f g h e i g=>aI .i64 f fun e=>bif(e==b)then(bif(decide (List.length c+1≤1073741824))then(X a b (c++[.int .i64 d]) (IntKind.i64.wrap (d+1)))else none)else(X a b c (IntKind.i64.wrap (d+1))))else none)else(Ko c)))else(Ko c))
def l113_0g{R:Type}(G:ORC R)(k:Nat)(Ko:Cu R J4)(j:Nat):Cu R J137:=lup J137 (fun X=>b113_0 G k X Ko) j
def l113_0{R:Type}(G:ORC R)(k:Nat)(a:LV)(b:Int)(c:LV)(d:Int)(Ko:Cu R J4):OV R:=l113_0g G k Ko k a b c d
def L113{R:Type}(G:ORC R)(k:Nat):Nat→St→(Ex→St→OV R)→OV R
 |0,S,K=>P113_0h.mat S fun vs=>uc J137 (l113_0g G k (koX J4 P113_0x K) k) vs none
 |_,_,_=>none
def f113{R:Type}(G:ORC R)(k:Nat)(a:LV)(b:Int)(K:LV→OV R):OV R:=
 (l113_0 G k a b [] 0 (fun a=>K [.sl 1 a]))
abbrev g113 {R:Type} (G:ORC R) (k:Nat):LV→(LV→OV R)→OV R:=gF J117 (f113 G k)
theorem s113{R:Type}{G:ORC R}{k:Nat}(hG:Sound Tryz.prog TAB G):TL 113 (g113 G k):=
 gG J117 (by kernel_rfl) (callF_sound (L:=L113 G k) (f:=113) TAB_chk MO hG Tryz.func113 (sg:=S113) (by kernel_rfl) (by kernel_rfl) (las [0] (by kernel_rfl) ⟨loopIs J137 k (fun K X=>b113_0 G k X (koX J4 P113_0x K)) P113_0h P113_0x default (by kernel_rfl) (by kernel_rfl) (by kernel_rfl) (fun K X=>by kernel_rfl) (fun S K=>by kernel_rfl),trivial⟩))
def P78_0h:Pat:={tmps:=unds [pL,pI,pU,pU,pU,pI] 12 [],boxes:=nons [] 18 []}
def P78_0x:Pat:={tmps:=unds [] 18 [],boxes:=nons [] 18 []}
def P78_0r:Pat:={tmps:=unds [pU,pU,pU,pU,.var .bool .pr] 13 [],boxes:=nons [] 18 []}
def b78_0{R:Type}(G:ORC R)(k:Nat)(X:Cu R J115)(Ko:Cu R J3)(Kr:Cu R J37)(a:LV)(b c:Int):OV R:=
 (bif(decide (c<(a.length:Int)))then(bif((decide (0≤c))&&(decide (c<(a.length:Int))))then(nthK a (Int.toNat c) fun d=>aI .i64 d fun d=>bif(d==b)then(Kr true)else(X a b (IntKind.i64.wrap (c+1))))else none)else(Ko ()))
def l78_0g{R:Type}(G:ORC R)(k:Nat)(Ko:Cu R J3)(Kr:Cu R J37)(j:Nat):Cu R J115:=lup J115 (fun X=>b78_0 G k X Ko Kr) j
def l78_0{R:Type}(G:ORC R)(k:Nat)(a:LV)(b c:Int)(Ko:Cu R J3)(Kr:Cu R J37):OV R:=l78_0g G k Ko Kr k a b c
def L78{R:Type}(G:ORC R)(k:Nat):Nat→St→(Ex→St→OV R)→OV R
 |0,S,K=>P78_0h.mat S fun vs=>uc J115 (l78_0g G k (koX J3 P78_0x K) (koR J37 P78_0r K) k) vs none
 |_,_,_=>none
def f78{R:Type}(G:ORC R)(k:Nat)(a:LV)(b:Int)(K:LV→OV R):OV R:=
 (l78_0 G k a b 0 (fun(_:Unit)=>K [.bool false]) (fun a=>K [.bool a]))
abbrev g78 {R:Type} (G:ORC R) (k:Nat):LV→(LV→OV R)→OV R:=gF J116 (f78 G k)
theorem s78{R:Type}{G:ORC R}{k:Nat}(hG:Sound Tryz.prog TAB G):TL 78 (g78 G k):=
 gG J116 (by kernel_rfl) (callF_sound (L:=L78 G k) (f:=78) TAB_chk MO hG Tryz.func78 (sg:=S78) (by kernel_rfl) (by kernel_rfl) (las [0] (by kernel_rfl) ⟨loopIs J115 k (fun K X=>b78_0 G k X (koX J3 P78_0x K) (koR J37 P78_0r K)) P78_0h P78_0x P78_0r (by kernel_rfl) (by kernel_rfl) (by kernel_rfl) (fun K X=>by kernel_rfl) (fun S K=>by kernel_rfl),trivial⟩))
def P109_0h:Pat:={tmps:=unds [.var (.sl 7) .ro,pU,pU,pU,pU,.var (.sl 1) (.own true),pL,pI] 25 [],boxes:=nons [] 33 []}
def P109_0x:Pat:={tmps:=unds [] 5 (unds [.var (.sl 1) (.own true)] 27 []),boxes:=nons [] 33 []}
def b109_0{R:Type}(G:ORC R)(k:Nat)(X:Cu R J96)(Ko:Cu R J4)(a b c:LV)(d:Int):OV R:=
 (bif(decide (d<(c.length:Int)))then(bif((decide (0≤d))&&(decide (d<(c.length:Int))))then(nthK c (Int.toNat d) fun e=>aI .i64 e fun e=>bif((decide (0≤e))&&(decide (e<(a.length:Int))))then(nthK a (Int.toNat e) fun e=>V.asAgg e fun e=>G 89 [.agg e] fun e=>uB e fun e f=>unNil f (bif e then(bif((decide (0≤d))&&(decide (d<(c.length:Int))))then(nthK c (Int.toNat d) fun e=>aI .i64 e fun e=>bif(decide (List.length b+1≤1073741824))then(X a (b++[.int .i64 e]) c (IntKind.i64.wrap (d+1)))else none)else none)else(X a b c (IntKind.i64.wrap (d+1)))))else none)else none)else(Ko b))
def l109_0g{R:Type}(G:ORC R)(k:Nat)(Ko:Cu R J4)(j:Nat):Cu R J96:=lup J96 (fun X=>b109_0 G k X Ko) j
def l109_0{R:Type}(G:ORC R)(k:Nat)(a b c:LV)(d:Int)(Ko:Cu R J4):OV R:=l109_0g G k Ko k a b c d
def L109{R:Type}(G:ORC R)(k:Nat):Nat→St→(Ex→St→OV R)→OV R
 |0,S,K=>P109_0h.mat S fun vs=>uc J96 (l109_0g G k (koX J4 P109_0x K) k) vs none
 |_,_,_=>none
def f109{R:Type}(G:ORC R)(k:Nat)(a:LV)(b:Int)(K:LV→OV R):OV R:=
 (G 113 [.sl 7 a,.int .i64 b] fun b=>uL 1 b fun b c=>unNil c (l109_0 G k a [] b 0 (fun a=>K [.sl 1 a])))
abbrev g109 {R:Type} (G:ORC R) (k:Nat):LV→(LV→OV R)→OV R:=gF J117 (f109 G k)
theorem s109{R:Type}{G:ORC R}{k:Nat}(hG:Sound Tryz.prog TAB G):TL 109 (g109 G k):=
 gG J117 (by kernel_rfl) (callF_sound (L:=L109 G k) (f:=109) TAB_chk MO hG Tryz.func109 (sg:=S109) (by kernel_rfl) (by kernel_rfl) (las [0] (by kernel_rfl) ⟨loopIs J96 k (fun K X=>b109_0 G k X (koX J4 P109_0x K)) P109_0h P109_0x default (by kernel_rfl) (by kernel_rfl) (by kernel_rfl) (fun K X=>by kernel_rfl) (fun S K=>by kernel_rfl),trivial⟩))
def P28_0h:Pat:={tmps:=unds [pL,.var .str .pr,pU,pU,pU,pI] 12 [],boxes:=nons [] 18 []}
def P28_0x:Pat:={tmps:=unds [] 18 [],boxes:=nons [] 18 []}
def P28_0r:Pat:={tmps:=unds [pU,pU,pU,pU,.var .bool .pr] 13 [],boxes:=nons [] 18 []}
def b28_0{R:Type}(G:ORC R)(k:Nat)(X:Cu R J50)(Ko:Cu R J3)(Kr:Cu R J37)(a:LV)(b:ByteArray)(c:Int):OV R:=
 (bif(decide (c<(a.length:Int)))then(bif((decide (0≤c))&&(decide (c<(a.length:Int))))then(nthK a (Int.toNat c) fun d=>V.asStr d fun d=>bif(ByteArray.toList d==ByteArray.toList b)then(Kr true)else(X a b (IntKind.i64.wrap (c+1))))else none)else(Ko ()))
def l28_0g{R:Type}(G:ORC R)(k:Nat)(Ko:Cu R J3)(Kr:Cu R J37)(j:Nat):Cu R J50:=lup J50 (fun X=>b28_0 G k X Ko Kr) j
def l28_0{R:Type}(G:ORC R)(k:Nat)(a:LV)(b:ByteArray)(c:Int)(Ko:Cu R J3)(Kr:Cu R J37):OV R:=l28_0g G k Ko Kr k a b c
def L28{R:Type}(G:ORC R)(k:Nat):Nat→St→(Ex→St→OV R)→OV R
 |0,S,K=>P28_0h.mat S fun vs=>uc J50 (l28_0g G k (koX J3 P28_0x K) (koR J37 P28_0r K) k) vs none
 |_,_,_=>none
def f28{R:Type}(G:ORC R)(k:Nat)(a:LV)(b:ByteArray)(K:LV→OV R):OV R:=
 (l28_0 G k a b 0 (fun(_:Unit)=>K [.bool false]) (fun a=>K [.bool a]))
abbrev g28 {R:Type} (G:ORC R) (k:Nat):LV→(LV→OV R)→OV R:=gF J51 (f28 G k)
theorem s28{R:Type}{G:ORC R}{k:Nat}(hG:Sound Tryz.prog TAB G):TL 28 (g28 G k):=
 gG J51 (by kernel_rfl) (callF_sound (L:=L28 G k) (f:=28) TAB_chk MO hG Tryz.func28 (sg:=S28) (by kernel_rfl) (by kernel_rfl) (las [0] (by kernel_rfl) ⟨loopIs J50 k (fun K X=>b28_0 G k X (koX J3 P28_0x K) (koR J37 P28_0r K)) P28_0h P28_0x P28_0r (by kernel_rfl) (by kernel_rfl) (by kernel_rfl) (fun K X=>by kernel_rfl) (fun S K=>by kernel_rfl),trivial⟩))
def P35_2h:Pat:={tmps:=unds [pU,pL,pI,pI,pS 4,pU,pU,pU,pU,.var (.sl 1) (.own true),pI,.var .any .ro,pI] 59 [],boxes:=nons [none,none,none,none,some B0] 67 []}
def P35_2x:Pat:={tmps:=unds [pU,pL,pI,pI,pS 4,pU,pU,pU,pU,.var (.sl 1) (.own true),pI] 61 [],boxes:=nons [none,none,none,none,some B0] 67 []}
def P35_0h:Pat:={tmps:=unds [pU,pL,pI,pI,pS 4,pU,pU,pU,pU,.var (.sl 1) (.own true),pI] 61 [],boxes:=nons [none,none,none,none,some B0] 67 []}
def P35_0x:Pat:={tmps:=unds [] 9 (unds [.var (.sl 1) (.own true)] 62 []),boxes:=nons [] 72 []}
def b35_2{R:Type}(G:ORC R)(k:Nat)(X:Cu R J58)(Ko:Cu R J57)(a:LV)(b c:Int)(d:LV)(e:Int)(f:V)(g:Int)(h:ByteArray)(i l:Int)(m n o p q r:LV):OV R:=
 (V.asSl f fun s t=>bif(decide (g<(t.length:Int)))then(V.asSl f fun s t=>bif(((s==4)&&(decide (0≤g)))&&(decide (g<(t.length:Int))))then(nthK t (Int.toNat g) fun s=>ca4 s fun s t u v=>aI .i64 s fun s=>bif(s==b)then(bif(b==19)then(V.asSl f fun s t=>bif(((s==4)&&(decide (0≤g)))&&(decide (g<(t.length:Int))))then(nthK t (Int.toNat g) fun s=>ca4 s fun s t u v=>V.asStr v fun s=>G 28 [.sl 1 d,.str s] fun s=>uB s fun s t=>unNil t (bif(!s)then(V.asSl f fun s t=>bif(((s==4)&&(decide (0≤g)))&&(decide (g<(t.length:Int))))then(nthK t (Int.toNat g) fun s=>ca4 s fun s t u v=>V.asStr v fun s=>bif(decide (List.length d+1≤1073741824))then(X a b c (d++[.str s]) e f (IntKind.i64.wrap (g+1)) h i l m n o p q r)else none)else none)else(X a b c d e f (IntKind.i64.wrap (g+1)) h i l m n o p q r)))else none)else(V.asSl f fun s t=>bif(((s==4)&&(decide (0≤g)))&&(decide (g<(t.length:Int))))then(nthK t (Int.toNat g) fun s=>ca4 s fun s t u v=>aI .i64 t fun s=>bif(s==c)then(V.asSl f fun s t=>bif(((s==4)&&(decide (0≤g)))&&(decide (g<(t.length:Int))))then(nthK t (Int.toNat g) fun s=>ca4 s fun s t u v=>V.asStr v fun s=>G 28 [.sl 1 d,.str s] fun s=>uB s fun s t=>unNil t (bif(!s)then(V.asSl f fun s t=>bif(((s==4)&&(decide (0≤g)))&&(decide (g<(t.length:Int))))then(nthK t (Int.toNat g) fun s=>ca4 s fun s t u v=>V.asStr v fun s=>bif(decide (List.length d+1≤1073741824))then(X a b c (d++[.str s]) e f (IntKind.i64.wrap (g+1)) h i l m n o p q r)else none)else none)else(X a b c d e f (IntKind.i64.wrap (g+1)) h i l m n o p q r)))else none)else(X a b c d e f (IntKind.i64.wrap (g+1)) h i l m n o p q r))else none))else(X a b c d e f (IntKind.i64.wrap (g+1)) h i l m n o p q r))else none)else(Ko a b c d e h i l m n o p q r))
def l35_2g{R:Type}(G:ORC R)(k:Nat)(Ko:Cu R J57)(j:Nat):Cu R J58:=lup J58 (fun X=>b35_2 G k X Ko) j
def l35_2{R:Type}(G:ORC R)(k:Nat)(a:LV)(b c:Int)(d:LV)(e:Int)(f:V)(g:Int)(h:ByteArray)(i l:Int)(m n o p q r:LV)(Ko:Cu R J57):OV R:=l35_2g G k Ko k a b c d e f g h i l m n o p q r
def b35_0{R:Type}(G:ORC R)(k:Nat)(X:Cu R J57)(Ko:Cu R J4)(a:LV)(b c:Int)(d:LV)(e:Int)(f:ByteArray)(g h:Int)(i l m n o p:LV):OV R:=
 (bif(decide (e<(a.length:Int)))then(bif((decide (0≤e))&&(decide (e<(a.length:Int))))then(nthK a (Int.toNat e) fun q=>aI .i64 q fun q=>bif((decide (0≤q))&&(decide (q<(p.length:Int))))then(nthK p (Int.toNat q) fun q=>V.asSl q fun q r=>l35_2 G k a b c d e (.sl q r) 0 f g h i l m n o p (fun a b c e f g h i l m n o p q=>X a b c e (IntKind.i64.wrap (f+1)) g h i l m n o p q))else none)else none)else(Ko d))
def l35_0g{R:Type}(G:ORC R)(k:Nat)(Ko:Cu R J4)(j:Nat):Cu R J57:=lup J57 (fun X=>b35_0 G k X Ko) j
def l35_0{R:Type}(G:ORC R)(k:Nat)(a:LV)(b c:Int)(d:LV)(e:Int)(f:ByteArray)(g h:Int)(i l m n o p:LV)(Ko:Cu R J4):OV R:=l35_0g G k Ko k a b c d e f g h i l m n o p
def L35{R:Type}(G:ORC R)(k:Nat):Nat→St→(Ex→St→OV R)→OV R
 |2,S,K=>P35_2h.mat S fun vs=>uc J58 (l35_2g G k (koX J57 P35_2x K) k) vs none
 |0,S,K=>P35_0h.mat S fun vs=>uc J57 (l35_0g G k (koX J4 P35_0x K) k) vs none
 |_,_,_=>none
def f35{R:Type}(G:ORC R)(k:Nat)(a:ByteArray)(b c:Int)(d e f g h i l:LV)(m n:Int)(K:LV→OV R):OV R:=
 (l35_0 G k l m n [] 0 a b c d e f g h i (fun a=>K [.sl 1 a]))
abbrev g35 {R:Type} (G:ORC R) (k:Nat):LV→(LV→OV R)→OV R:=gF J59 (f35 G k)
theorem s35{R:Type}{G:ORC R}{k:Nat}(hG:Sound Tryz.prog TAB G):TL 35 (g35 G k):=
 gG J59 (by kernel_rfl) (callF_sound (L:=L35 G k) (f:=35) TAB_chk MO hG Tryz.func35 (sg:=S35) (by kernel_rfl) (by kernel_rfl) (las [0,2] (by kernel_rfl) ⟨loopIs J57 k (fun K X=>b35_0 G k X (koX J4 P35_0x K)) P35_0h P35_0x default (by kernel_rfl) (by kernel_rfl) (by kernel_rfl) (fun K X=>by kernel_rfl) (fun S K=>by kernel_rfl),loopIs J58 k (fun K X=>b35_2 G k X (koX J57 P35_2x K)) P35_2h P35_2x default (by kernel_rfl) (by kernel_rfl) (by kernel_rfl) (fun K X=>by kernel_rfl) (fun S K=>by kernel_rfl),trivial⟩))
def P61_0h:Pat:={tmps:=unds [pU,pL,pS 2,pU,pU,.var (.sl 1) (.own true),pI] 15 [],boxes:=nons [none,none,some B0] 19 []}
def P61_0x:Pat:={tmps:=unds [] 5 (unds [.var (.sl 1) (.own true)] 16 []),boxes:=nons [] 22 []}
def b61_0{R:Type}(G:ORC R)(k:Nat)(X:Cu R J55)(Ko:Cu R J4)(a b:LV)(c:Int)(d:ByteArray)(e f:Int)(g h i l m n:LV):OV R:=
 (bif(decide (c<(n.length:Int)))then(G 78 [.sl 1 a,.int .i64 c] fun o=>uB o fun o p=>unNil p (bif o then(bif(decide (List.length b+1≤1073741824))then(X a (b++[.int .i64 c]) (IntKind.i64.wrap (c+1)) d e f g h i l m n)else none)else(X a b (IntKind.i64.wrap (c+1)) d e f g h i l m n)))else(Ko b))
def l61_0g{R:Type}(G:ORC R)(k:Nat)(Ko:Cu R J4)(j:Nat):Cu R J55:=lup J55 (fun X=>b61_0 G k X Ko) j
def l61_0{R:Type}(G:ORC R)(k:Nat)(a b:LV)(c:Int)(d:ByteArray)(e f:Int)(g h i l m n:LV)(Ko:Cu R J4):OV R:=l61_0g G k Ko k a b c d e f g h i l m n
def L61{R:Type}(G:ORC R)(k:Nat):Nat→St→(Ex→St→OV R)→OV R
 |0,S,K=>P61_0h.mat S fun vs=>uc J55 (l61_0g G k (koX J4 P61_0x K) k) vs none
 |_,_,_=>none
def f61{R:Type}(G:ORC R)(k:Nat)(a:ByteArray)(b c:Int)(d e f g h i l:LV)(K:LV→OV R):OV R:=
 (l61_0 G k l [] 0 a b c d e f g h i (fun a=>K [.sl 1 a]))
abbrev g61 {R:Type} (G:ORC R) (k:Nat):LV→(LV→OV R)→OV R:=gF J92 (f61 G k)
theorem s61{R:Type}{G:ORC R}{k:Nat}(hG:Sound Tryz.prog TAB G):TL 61 (g61 G k):=
 gG J92 (by kernel_rfl) (callF_sound (L:=L61 G k) (f:=61) TAB_chk MO hG Tryz.func61 (sg:=S61) (by kernel_rfl) (by kernel_rfl) (las [0] (by kernel_rfl) ⟨loopIs J55 k (fun K X=>b61_0 G k X (koX J4 P61_0x K)) P61_0h P61_0x default (by kernel_rfl) (by kernel_rfl) (by kernel_rfl) (fun K X=>by kernel_rfl) (fun S K=>by kernel_rfl),trivial⟩))
def P62_2h:Pat:={tmps:=unds [pU,pL,pS 2,pU,pU,.var (.sl 1) (.own true),pI,pS 7,pI] 56 [],boxes:=nons [none,none,some B0,none,none,none,none,some B21] 57 []}
def P62_2x:Pat:={tmps:=unds [pU,pL,pS 2,pU,pU,.var (.sl 1) (.own true),pI] 58 [],boxes:=nons [none,none,some B0] 62 []}
def P62_0h:Pat:={tmps:=unds [pU,pL,pS 2,pU,pU,.var (.sl 1) (.own true),pI] 58 [],boxes:=nons [none,none,some B0] 62 []}
def P62_0x:Pat:={tmps:=unds [pU,pU,pS 2,pU,pU,.var (.sl 1) (.own true)] 59 [],boxes:=nons [none,none,some B0] 62 []}
def b62_2{R:Type}(G:ORC R)(k:Nat)(X:Cu R J93)(Ko:Cu R J55)(a b:LV)(c d:Int)(e:ByteArray)(f g:Int)(h i l m n o:LV)(p q r s t:Int)(u:ByteArray):OV R:=
 (bif(decide (d<(m.length:Int)))then(bif(d !=r)then(G 79 [.sl 7 m,.int .i64 d,.int .i64 r] fun v=>uB v fun v w=>unNil w (bif v then(bif((decide (0≤d))&&(decide (d<(m.length:Int))))then(nthK m (Int.toNat d) fun v=>ca7 v fun v w x y v w x=>aI .i64 v fun v=>bif((decide (0≤d))&&(decide (d<(m.length:Int))))then(nthK m (Int.toNat d) fun w=>ca7 w fun w x y z w x y=>aI .i64 x fun w=>bif(decide (List.length b+2≤1073741824))then(X a (b++[.int .i64 v,.int .i64 w]) c (IntKind.i64.wrap (d+1)) e f g h i l m n o p q r s t u)else none)else none)else none)else(X a b c (IntKind.i64.wrap (d+1)) e f g h i l m n o p q r s t u)))else(X a b c (IntKind.i64.wrap (d+1)) e f g h i l m n o p q r s t u))else(Ko a b c e f g h i l m n o))
def l62_2g{R:Type}(G:ORC R)(k:Nat)(Ko:Cu R J55)(j:Nat):Cu R J93:=lup J93 (fun X=>b62_2 G k X Ko) j
def l62_2{R:Type}(G:ORC R)(k:Nat)(a b:LV)(c d:Int)(e:ByteArray)(f g:Int)(h i l m n o:LV)(p q r s t:Int)(u:ByteArray)(Ko:Cu R J55):OV R:=l62_2g G k Ko k a b c d e f g h i l m n o p q r s t u
def b62_0{R:Type}(G:ORC R)(k:Nat)(X:Cu R J55)(Ko:Cu R J54)(a b:LV)(c:Int)(d:ByteArray)(e f:Int)(g h i l m n:LV):OV R:=
 (bif(decide (c<(a.length:Int)))then(bif((decide (0≤c))&&(decide (c<(a.length:Int))))then(nthK a (Int.toNat c) fun o=>aI .i64 o fun o=>bif((decide (0≤o))&&(decide (o<(m.length:Int))))then(nthK m (Int.toNat o) fun o=>V.asAgg o fun o=>ce6 o fun o p q r s t=>aI .i64 o fun o=>aI .i64 p fun p=>aI .i64 q fun q=>aI .i64 r fun r=>aI .i64 s fun s=>V.asStr t fun t=>bif(decide (List.length b+1≤1073741824))then(l62_2 G k a (b++[.int .i64 s]) c 0 d e f g h i l m n o p q r s t (fun a c o p q r s t u v w x=>X a c (IntKind.i64.wrap (o+1)) p q r s t u v w x))else none)else none)else none)else(Ko b d e f g h i l m n))
def l62_0g{R:Type}(G:ORC R)(k:Nat)(Ko:Cu R J54)(j:Nat):Cu R J55:=lup J55 (fun X=>b62_0 G k X Ko) j
def l62_0{R:Type}(G:ORC R)(k:Nat)(a b:LV)(c:Int)(d:ByteArray)(e f:Int)(g h i l m n:LV)(Ko:Cu R J54):OV R:=l62_0g G k Ko k a b c d e f g h i l m n
def L62{R:Type}(G:ORC R)(k:Nat):Nat→St→(Ex→St→OV R)→OV R
 |2,S,K=>P62_2h.mat S fun vs=>uc J93 (l62_2g G k (koX J55 P62_2x K) k) vs none
 |0,S,K=>P62_0h.mat S fun vs=>uc J55 (l62_0g G k (koX J54 P62_0x K) k) vs none
 |_,_,_=>none
def f62{R:Type}(G:ORC R)(k:Nat)(a:ByteArray)(b c:Int)(d e f g h i l:LV)(K:LV→OV R):OV R:=
 (l62_0 G k l [] 0 a b c d e f g h i (fun a b c d e f g h i l=>G 61 [.agg [.str b,.int .i64 c,.int .i64 d,.sl 1 e,.sl 1 f,.sl 1 g,.sl 7 h,.sl 6 i,.sl 1 l],.sl 1 a] fun a=>uL 1 a fun a b=>unNil b (K [.sl 1 a])))
abbrev g62 {R:Type} (G:ORC R) (k:Nat):LV→(LV→OV R)→OV R:=gF J92 (f62 G k)
theorem s62{R:Type}{G:ORC R}{k:Nat}(hG:Sound Tryz.prog TAB G):TL 62 (g62 G k):=
 gG J92 (by kernel_rfl) (callF_sound (L:=L62 G k) (f:=62) TAB_chk MO hG Tryz.func62 (sg:=S62) (by kernel_rfl) (by kernel_rfl) (las [0,2] (by kernel_rfl) ⟨loopIs J55 k (fun K X=>b62_0 G k X (koX J54 P62_0x K)) P62_0h P62_0x default (by kernel_rfl) (by kernel_rfl) (by kernel_rfl) (fun K X=>by kernel_rfl) (fun S K=>by kernel_rfl),loopIs J93 k (fun K X=>b62_2 G k X (koX J55 P62_2x K)) P62_2h P62_2x default (by kernel_rfl) (by kernel_rfl) (by kernel_rfl) (fun K X=>by kernel_rfl) (fun S K=>by kernel_rfl),trivial⟩))
def P27_2h:Pat:={tmps:=unds [pU,.var .bool .pr,pL,pL,pS 4,pU,pU,pU,pS 8,pS 9,.var (.sl 1) (.own true),pI] 69 [],boxes:=nons [none,none,none,none,some B0,none,none,none,some B1,some B2] 71 []}
def P27_2x:Pat:={tmps:=unds [pU,.var .bool .pr,pL,pL,pS 4,pU,pU,pU,pS 8,pS 9,.var (.sl 1) (.own true)] 70 [],boxes:=nons [none,none,none,none,some B0,none,none,none,some B1,some B2] 71 []}
def P27_0h:Pat:={tmps:=unds [pU,.var .bool .pr,pL,pL,pS 4,pU,pU,pU,pS 8,pS 9] 71 [],boxes:=nons [none,none,none,none,some B0,none,none,none,some B1,some B2] 71 []}
def P27_0r:Pat:={tmps:=unds [] 8 (unds [pS 8] 72 []),boxes:=nons [] 8 (nons [some B2] 72 [])}
def b27_2{R:Type}(G:ORC R)(k:Nat)(X:Cu R J46)(Ko:Cu R J45)(a:Bool)(b c d:LV)(e:Int)(f:ByteArray)(g h:Int)(i l m n o p q r s:LV)(t:Bool)(u v w:LV)(x:Bool):OV R:=
 (bif(decide (e<(o.length:Int)))then(bif((decide (0≤e))&&(decide (e<(o.length:Int))))then(nthK o (Int.toNat e) fun y=>ca6 y fun y z A B y z=>V.asStr z fun y=>bif a then(bif(decide (List.length d+1≤1073741824))then(X a b c (d++[.int .i64 e]) (IntKind.i64.wrap (e+1)) f g h i l m n o p q r s t u v w x)else none)else(bif(ByteArray.toList y==ByteArray.toList ⟨#[]⟩)then(bif(decide (List.length d+1≤1073741824))then(X a b c (d++[.int .i64 e]) (IntKind.i64.wrap (e+1)) f g h i l m n o p q r s t u v w x)else none)else(bif(ByteArray.toList y==ByteArray.toList ⟨#[101,114,114,111,114]⟩)then(bif(decide (List.length d+1≤1073741824))then(X a b c (d++[.int .i64 e]) (IntKind.i64.wrap (e+1)) f g h i l m n o p q r s t u v w x)else none)else(G 28 [.sl 1 b,.str y] fun z=>uB z fun z A=>unNil A (bif z then(bif(decide (List.length d+1≤1073741824))then(X a b c (d++[.int .i64 e]) (IntKind.i64.wrap (e+1)) f g h i l m n o p q r s t u v w x)else none)else(G 28 [.sl 1 w,.str y] fun y=>uB y fun y z=>unNil z (bif y then(bif(decide (List.length d+1≤1073741824))then(X a b c (d++[.int .i64 e]) (IntKind.i64.wrap (e+1)) f g h i l m n o p q r s t u v w x)else none)else(X a b c d (IntKind.i64.wrap (e+1)) f g h i l m n o p q r s t u v w x))))))))else none)else(Ko a b c d f g h i l m n o p q r s t u v w x))
def l27_2g{R:Type}(G:ORC R)(k:Nat)(Ko:Cu R J45)(j:Nat):Cu R J46:=lup J46 (fun X=>b27_2 G k X Ko) j
def l27_2{R:Type}(G:ORC R)(k:Nat)(a:Bool)(b c d:LV)(e:Int)(f:ByteArray)(g h:Int)(i l m n o p q r s:LV)(t:Bool)(u v w:LV)(x:Bool)(Ko:Cu R J45):OV R:=l27_2g G k Ko k a b c d e f g h i l m n o p q r s t u v w x
def b27_0{R:Type}(G:ORC R)(k:Nat)(X:Cu R J48)(Kr:Cu R J47)(a:Bool)(b c:LV)(d:ByteArray)(e f:Int)(g h i l m n o p q:LV)(r:Bool)(s t u:LV)(v:Bool):OV R:=
 (l27_2 G k a b c [] 0 d e f g h i l m n o p q r s t u v (fun a b c d e f g h i l m n o p q r s t u v w=>bif((d.length:Int)==(t.length:Int))then(Kr t u v w)else(G 62 [.agg [.str e,.int .i64 f,.int .i64 g,.sl 1 h,.sl 1 i,.sl 1 l,.sl 7 m,.sl 6 n,.sl 1 o],.sl 1 d] fun t=>uL 1 t fun t u=>unNil u (bif(decide (List.length t+List.length c≤1073741824))then(G 61 [.agg [.str e,.int .i64 f,.int .i64 g,.sl 1 h,.sl 1 i,.sl 1 l,.sl 7 m,.sl 6 n,.sl 1 o],.sl 1 (t++c)] fun t=>uL 1 t fun t u=>unNil u (G 35 [.agg [.str e,.int .i64 f,.int .i64 g,.sl 1 h,.sl 1 i,.sl 1 l,.sl 7 m,.sl 6 n,.sl 1 o],.sl 1 t,.int .i64 19,.int .i64 0] fun u=>uL 1 u fun u v=>unNil v (X a b c e f g h i l m n o p q r s d t u w)))else none))))
def l27_0g{R:Type}(G:ORC R)(k:Nat)(Kr:Cu R J47)(j:Nat):Cu R J48:=lup J48 (fun X=>b27_0 G k X Kr) j
def l27_0{R:Type}(G:ORC R)(k:Nat)(a:Bool)(b c:LV)(d:ByteArray)(e f:Int)(g h i l m n o p q:LV)(r:Bool)(s t u:LV)(v:Bool)(Kr:Cu R J47):OV R:=l27_0g G k Kr k a b c d e f g h i l m n o p q r s t u v
def L27{R:Type}(G:ORC R)(k:Nat):Nat→St→(Ex→St→OV R)→OV R
 |2,S,K=>P27_2h.mat S fun vs=>uc J46 (l27_2g G k (koX J45 P27_2x K) k) vs none
 |0,S,K=>P27_0h.mat S fun vs=>uc J48 (l27_0g G k (koR J47 P27_0r K) k) vs none
 |_,_,_=>none
def f27{R:Type}(G:ORC R)(k:Nat)(a:ByteArray)(b c:Int)(d e f g h i:LV)(l:Bool)(m n:LV)(K:LV→OV R):OV R:=
 (G 61 [.agg [.str a,.int .i64 b,.int .i64 c,.sl 1 d,.sl 1 e,.sl 1 f,.sl 7 g,.sl 6 h,.sl 1 i],.sl 1 n] fun o=>uL 1 o fun o p=>unNil p (G 35 [.agg [.str a,.int .i64 b,.int .i64 c,.sl 1 d,.sl 1 e,.sl 1 f,.sl 7 g,.sl 6 h,.sl 1 i],.sl 1 o,.int .i64 19,.int .i64 0] fun p=>uL 1 p fun p q=>unNil q (l27_0 G k l m n a b c d e f g h i [] [] [] false [] o p false (fun a b c d=>K [.agg [.sl 1 a,.sl 1 b,.sl 1 c,.bool d]]))))
abbrev g27 {R:Type} (G:ORC R) (k:Nat):LV→(LV→OV R)→OV R:=gF J49 (f27 G k)
theorem s27{R:Type}{G:ORC R}{k:Nat}(hG:Sound Tryz.prog TAB G):TL 27 (g27 G k):=
 gG J49 (by kernel_rfl) (callF_sound (L:=L27 G k) (f:=27) TAB_chk MO hG Tryz.func27 (sg:=S27) (by kernel_rfl) (by kernel_rfl) (las [0,2] (by kernel_rfl) ⟨loopIs J48 k (fun K X=>b27_0 G k X (koR J47 P27_0r K)) P27_0h default P27_0r (by kernel_rfl) (by kernel_rfl) (by kernel_rfl) (fun K X=>by kernel_rfl) (fun S K=>by kernel_rfl),loopIs J46 k (fun K X=>b27_2 G k X (koX J45 P27_2x K)) P27_2h P27_2x default (by kernel_rfl) (by kernel_rfl) (by kernel_rfl) (fun K X=>by kernel_rfl) (fun S K=>by kernel_rfl),trivial⟩))
def P10_0h:Pat:={tmps:=unds [pU,pU,pU,pS 3,pU,pU,pS 6,pS 7,pI] 40 [],boxes:=nons [none,none,none,some B0,none,none,some B1,some B2] 41 []}
def P10_0x:Pat:={tmps:=unds [] 6 (unds [pS 6,pS 7] 41 []),boxes:=nons [] 6 (nons [some B1,some B2] 41 [])}
def b10_0{R:Type}(G:ORC R)(k:Nat)(X:Cu R J10)(Ko:Cu R J9)(a:Int)(b:ByteArray)(c d:Int)(e f g h i l m n o:LV)(p:Bool)(q r s:LV)(t:Bool):OV R:=
 (bif(decide (a<(q.length:Int)))then(bif((decide (0≤a))&&(decide (a<(q.length:Int))))then(nthK q (Int.toNat a) fun u=>aI .i64 u fun u=>bif((decide (0≤u))&&(decide (u<(i.length:Int))))then(nthK i (Int.toNat u) fun u=>ca6 u fun u v w x u v=>V.asStr v fun u=>bif t then(X (IntKind.i64.wrap (a+1)) b c d e f g h i l m n o p q r s true)else(bif(ByteArray.toList u==ByteArray.toList ⟨#[]⟩)then(X (IntKind.i64.wrap (a+1)) b c d e f g h i l m n o p q r s true)else(bif(ByteArray.toList u==ByteArray.toList ⟨#[101,114,114,111,114]⟩)then(X (IntKind.i64.wrap (a+1)) b c d e f g h i l m n o p q r s true)else(G 28 [.sl 1 s,.str u] fun u=>uB u fun u v=>unNil v (X (IntKind.i64.wrap (a+1)) b c d e f g h i l m n o p q r s u)))))else none)else none)else(Ko m n o p q r s t))
def l10_0g{R:Type}(G:ORC R)(k:Nat)(Ko:Cu R J9)(j:Nat):Cu R J10:=lup J10 (fun X=>b10_0 G k X Ko) j
def l10_0{R:Type}(G:ORC R)(k:Nat)(a:Int)(b:ByteArray)(c d:Int)(e f g h i l m n o:LV)(p:Bool)(q r s:LV)(t:Bool)(Ko:Cu R J9):OV R:=l10_0g G k Ko k a b c d e f g h i l m n o p q r s t
def L10{R:Type}(G:ORC R)(k:Nat):Nat→St→(Ex→St→OV R)→OV R
 |0,S,K=>P10_0h.mat S fun vs=>uc J10 (l10_0g G k (koX J9 P10_0x K) k) vs none
 |_,_,_=>none
def f10{R:Type}(G:ORC R)(k:Nat)(a:ByteArray)(b c:Int)(d e f g h i:LV)(l:Bool)(m:LV)(K:LV→OV R):OV R:=
 (G 27 [.agg [.str a,.int .i64 b,.int .i64 c,.sl 1 d,.sl 1 e,.sl 1 f,.sl 7 g,.sl 6 h,.sl 1 i],.bool l,.sl 1 m,.sl 1 []] fun l=>uA l fun l m=>uL 1 l fun l n=>uL 1 n fun n o=>uL 1 o fun o p=>uB p fun p q=>unNil q (unNil m (l10_0 G k 0 a b c d e f g h i [] [] [] false l n o p (fun a b c d a b c d=>K [.agg [.sl 1 a,.sl 1 b,.sl 1 c,.bool d]]))))
abbrev g10 {R:Type} (G:ORC R) (k:Nat):LV→(LV→OV R)→OV R:=gF J8 (f10 G k)
theorem s10{R:Type}{G:ORC R}{k:Nat}(hG:Sound Tryz.prog TAB G):TL 10 (g10 G k):=
 gG J8 (by kernel_rfl) (callF_sound (L:=L10 G k) (f:=10) TAB_chk MO hG Tryz.func10 (sg:=S10) (by kernel_rfl) (by kernel_rfl) (las [0] (by kernel_rfl) ⟨loopIs J10 k (fun K X=>b10_0 G k X (koX J9 P10_0x K)) P10_0h P10_0x default (by kernel_rfl) (by kernel_rfl) (by kernel_rfl) (fun K X=>by kernel_rfl) (fun S K=>by kernel_rfl),trivial⟩))
def P77_0h:Pat:={tmps:=unds [pL,.var .bool .pr] 5 (unds [pI,pI] 10 []),boxes:=nons [] 19 []}
def P77_0x:Pat:={tmps:=unds [] 19 [],boxes:=nons [] 19 []}
def P77_0r:Pat:={tmps:=unds [pU,pU,pU,pU,pI] 14 [],boxes:=nons [] 19 []}
def b77_0{R:Type}(G:ORC R)(k:Nat)(X:Cu R J114)(Ko:Cu R J3)(Kr:Cu R J5)(a:LV)(b:Bool)(c d:Int):OV R:=
 (bif(decide (d<c))then(bif((decide (0≤d))&&(decide (d<(a.length:Int))))then(nthK a (Int.toNat d) fun e=>V.asBool e fun e=>bif(b==e)then(Kr d)else(X a b c (IntKind.i64.wrap (d+1))))else none)else(Ko ()))
def l77_0g{R:Type}(G:ORC R)(k:Nat)(Ko:Cu R J3)(Kr:Cu R J5)(j:Nat):Cu R J114:=lup J114 (fun X=>b77_0 G k X Ko Kr) j
def l77_0{R:Type}(G:ORC R)(k:Nat)(a:LV)(b:Bool)(c d:Int)(Ko:Cu R J3)(Kr:Cu R J5):OV R:=l77_0g G k Ko Kr k a b c d
def L77{R:Type}(G:ORC R)(k:Nat):Nat→St→(Ex→St→OV R)→OV R
 |0,S,K=>P77_0h.mat S fun vs=>uc J114 (l77_0g G k (koX J3 P77_0x K) (koR J5 P77_0r K) k) vs none
 |_,_,_=>none
def f77{R:Type}(G:ORC R)(k:Nat)(a:LV)(b:Bool)(K:LV→OV R):OV R:=
 (l77_0 G k a b (a.length:Int) 0 (fun(_:Unit)=>K [.int .i64 (-1)]) (fun a=>K [.int .i64 a]))
abbrev g77 {R:Type} (G:ORC R) (k:Nat):LV→(LV→OV R)→OV R:=gF J91 (f77 G k)
theorem s77{R:Type}{G:ORC R}{k:Nat}(hG:Sound Tryz.prog TAB G):TL 77 (g77 G k):=
 gG J91 (by kernel_rfl) (callF_sound (L:=L77 G k) (f:=77) TAB_chk MO hG Tryz.func77 (sg:=S77) (by kernel_rfl) (by kernel_rfl) (las [0] (by kernel_rfl) ⟨loopIs J114 k (fun K X=>b77_0 G k X (koX J3 P77_0x K) (koR J5 P77_0r K)) P77_0h P77_0x P77_0r (by kernel_rfl) (by kernel_rfl) (by kernel_rfl) (fun K X=>by kernel_rfl) (fun S K=>by kernel_rfl),trivial⟩))
def f60{R:Type}(G:ORC R)(k:Nat)(a:LV)(b:Bool)(K:LV→OV R):OV R:=
 (G 77 [.sl 1 a,.bool b] fun a=>uI .i64 a fun a b=>unNil b (K [.bool (decide (a≥0))]))
abbrev g60 {R:Type} (G:ORC R) (k:Nat):LV→(LV→OV R)→OV R:=gF J91 (f60 G k)
theorem s60{R:Type}{G:ORC R}{k:Nat}(hG:Sound Tryz.prog TAB G):TL 60 (g60 G k):=
 gG J91 (by kernel_rfl) (callF_sound (L:=fun _ _ _=>none) (f:=60) TAB_chk MO hG Tryz.func60 (sg:=S60) (by kernel_rfl) (by kernel_rfl) (las [] (by kernel_rfl) trivial))
def P110_0h:Pat:={tmps:=unds [pS 0,pI,pU,pU,pU,pI] 22 [],boxes:=nons [some B24] 28 []}
def P110_0x:Pat:={tmps:=unds [] 28 [],boxes:=nons [some B24] 28 []}
def P110_0r:Pat:={tmps:=unds [pU,pU,pU,pU,.var .bool .pr] 23 [],boxes:=nons [some B24] 28 []}
def b110_0{R:Type}(G:ORC R)(k:Nat)(X:Cu R J129)(Ko:Cu R J123)(Kr:Cu R J135)(a b:Int)(c d e:LV):OV R:=
 (bif(decide (b<(e.length:Int)))then(bif((decide (0≤b))&&(decide (b<(e.length:Int))))then(nthK e (Int.toNat b) fun f=>aI .i64 f fun f=>G 79 [.sl 7 c,.int .i64 f,.int .i64 a] fun f=>uB f fun f g=>unNil g (bif f then(Kr true c d e)else(X a (IntKind.i64.wrap (b+1)) c d e)))else none)else(Ko c d e))
def l110_0g{R:Type}(G:ORC R)(k:Nat)(Ko:Cu R J123)(Kr:Cu R J135)(j:Nat):Cu R J129:=lup J129 (fun X=>b110_0 G k X Ko Kr) j
def l110_0{R:Type}(G:ORC R)(k:Nat)(a b:Int)(c d e:LV)(Ko:Cu R J123)(Kr:Cu R J135):OV R:=l110_0g G k Ko Kr k a b c d e
def L110{R:Type}(G:ORC R)(k:Nat):Nat→St→(Ex→St→OV R)→OV R
 |0,S,K=>P110_0h.mat S fun vs=>uc J129 (l110_0g G k (koX J123 P110_0x K) (koR J135 P110_0r K) k) vs none
 |_,_,_=>none
def f110{R:Type}(G:ORC R)(k:Nat)(a:Int)(b c d:LV)(K:LV→OV R):OV R:=
 (l110_0 G k a 0 b c d (fun a b c=>K [.bool false,.sl 1 c]) (fun a b c d=>K [.bool a,.sl 1 d]))
abbrev g110 {R:Type} (G:ORC R) (k:Nat):LV→(LV→OV R)→OV R:=gF J124 (f110 G k)
theorem s110{R:Type}{G:ORC R}{k:Nat}(hG:Sound Tryz.prog TAB G):TL 110 (g110 G k):=
 gG J124 (by kernel_rfl) (callF_sound (L:=L110 G k) (f:=110) TAB_chk MO hG Tryz.func110 (sg:=S110) (by kernel_rfl) (by kernel_rfl) (las [0] (by kernel_rfl) ⟨loopIs J129 k (fun K X=>b110_0 G k X (koX J123 P110_0x K) (koR J135 P110_0r K)) P110_0h P110_0x P110_0r (by kernel_rfl) (by kernel_rfl) (by kernel_rfl) (fun K X=>by kernel_rfl) (fun S K=>by kernel_rfl),trivial⟩))
def P100_0h:Pat:={tmps:=unds [pS 0,pU,pU,pU,pL,pI] 25 [],boxes:=nons [some B24] 31 []}
def P100_0x:Pat:={tmps:=unds [] 31 [],boxes:=nons [some B24] 31 []}
def b100_0{R:Type}(G:ORC R)(k:Nat)(X:Cu R J130)(Ko:Cu R J123)(a:LV)(b:Int)(c d e:LV):OV R:=
 (bif(decide (b<(a.length:Int)))then(bif((decide (0≤b))&&(decide (b<(a.length:Int))))then(nthK a (Int.toNat b) fun f=>aI .i64 f fun f=>G 110 [.int .i64 f,.sl 7 c,.sl 1 d,.sl 1 e] fun f=>uB f fun f g=>uL 1 g fun g h=>unNil h (bif(!f)then(bif((decide (0≤b))&&(decide (b<(a.length:Int))))then(nthK a (Int.toNat b) fun f=>aI .i64 f fun f=>G 86 [.int .i64 f,.sl 7 c,.sl 1 d,.sl 1 g] fun f=>uL 1 f fun f h=>unNil h (X a (IntKind.i64.wrap (b+1)) c d f))else none)else(X a (IntKind.i64.wrap (b+1)) c d g)))else none)else(Ko c d e))
def l100_0g{R:Type}(G:ORC R)(k:Nat)(Ko:Cu R J123)(j:Nat):Cu R J130:=lup J130 (fun X=>b100_0 G k X Ko) j
def l100_0{R:Type}(G:ORC R)(k:Nat)(a:LV)(b:Int)(c d e:LV)(Ko:Cu R J123):OV R:=l100_0g G k Ko k a b c d e
def L100{R:Type}(G:ORC R)(k:Nat):Nat→St→(Ex→St→OV R)→OV R
 |0,S,K=>P100_0h.mat S fun vs=>uc J130 (l100_0g G k (koX J123 P100_0x K) k) vs none
 |_,_,_=>none
def f100{R:Type}(G:ORC R)(k:Nat)(a:Int)(b c d:LV)(K:LV→OV R):OV R:=
 (G 109 [.sl 7 b,.int .i64 a] fun a=>uL 1 a fun a e=>unNil e (l100_0 G k a 0 b c d (fun a b c=>K [.sl 1 c])))
abbrev g100 {R:Type} (G:ORC R) (k:Nat):LV→(LV→OV R)→OV R:=gF J124 (f100 G k)
theorem s100{R:Type}{G:ORC R}{k:Nat}(hG:Sound Tryz.prog TAB G):TL 100 (g100 G k):=
 gG J124 (by kernel_rfl) (callF_sound (L:=L100 G k) (f:=100) TAB_chk MO hG Tryz.func100 (sg:=S100) (by kernel_rfl) (by kernel_rfl) (las [0] (by kernel_rfl) ⟨loopIs J130 k (fun K X=>b100_0 G k X (koX J123 P100_0x K)) P100_0h P100_0x default (by kernel_rfl) (by kernel_rfl) (by kernel_rfl) (fun K X=>by kernel_rfl) (fun S K=>by kernel_rfl),trivial⟩))
def P86_0h:Pat:={tmps:=unds [pS 0,pI,pU,pU,pL,pI] 86 [],boxes:=nons [some B24] 92 []}
def P86_0x:Pat:={tmps:=unds [pS 0,pI,pU,pU,pL] 87 [],boxes:=nons [some B24] 92 []}
def P86_2h:Pat:={tmps:=unds [pS 0,pI,pU,pU,pL,pU,pI] 85 [],boxes:=nons [some B24] 92 []}
def P86_2x:Pat:={tmps:=unds [] 92 [],boxes:=nons [some B24] 92 []}
def b86_0{R:Type}(G:ORC R)(k:Nat)(X:Cu R J122)(Ko:Cu R J121)(a:Int)(b:LV)(c:Int)(d e f:LV):OV R:=
 (bif(decide (c<(b.length:Int)))then(bif((decide (0≤c))&&(decide (c<(b.length:Int))))then(nthK b (Int.toNat c) fun g=>aI .i64 g fun g=>G 86 [.int .i64 g,.sl 7 d,.sl 1 e,.sl 1 f] fun g=>uL 1 g fun g h=>unNil h (X a b (IntKind.i64.wrap (c+1)) d e g))else none)else(Ko a b d e f))
def l86_0g{R:Type}(G:ORC R)(k:Nat)(Ko:Cu R J121)(j:Nat):Cu R J122:=lup J122 (fun X=>b86_0 G k X Ko) j
def l86_0{R:Type}(G:ORC R)(k:Nat)(a:Int)(b:LV)(c:Int)(d e f:LV)(Ko:Cu R J121):OV R:=l86_0g G k Ko k a b c d e f
def b86_2{R:Type}(G:ORC R)(k:Nat)(X:Cu R J122)(Ko:Cu R J123)(a:Int)(b:LV)(c:Int)(d e f:LV):OV R:=
 (bif(decide (c<(b.length:Int)))then(bif((decide (0≤c))&&(decide (c<(b.length:Int))))then(nthK b (Int.toNat c) fun g=>aI .i64 g fun g=>bif((decide (0≤a))&&(decide (a<(d.length:Int))))then(nthK d (Int.toNat a) fun h=>ca7 h fun h i l m h n l=>aI .i64 i fun h=>G 99 [.int .i64 g,.int .i64 h,.sl 7 d,.sl 1 e,.sl 1 f] fun g=>uL 1 g fun g h=>unNil h (X a b (IntKind.i64.wrap (c+1)) d e g))else none)else none)else(Ko d e f))
def l86_2g{R:Type}(G:ORC R)(k:Nat)(Ko:Cu R J123)(j:Nat):Cu R J122:=lup J122 (fun X=>b86_2 G k X Ko) j
def l86_2{R:Type}(G:ORC R)(k:Nat)(a:Int)(b:LV)(c:Int)(d e f:LV)(Ko:Cu R J123):OV R:=l86_2g G k Ko k a b c d e f
def L86{R:Type}(G:ORC R)(k:Nat):Nat→St→(Ex→St→OV R)→OV R
 |0,S,K=>P86_0h.mat S fun vs=>uc J122 (l86_0g G k (koX J121 P86_0x K) k) vs none
 |2,S,K=>P86_2h.mat S fun vs=>uc J122 (l86_2g G k (koX J123 P86_2x K) k) vs none
 |_,_,_=>none
def f86{R:Type}(G:ORC R)(k:Nat)(a:Int)(b c d:LV)(K:LV→OV R):OV R:=
 (bif((decide (0≤a))&&(decide (a<(b.length:Int))))then(nthK b (Int.toNat a) fun e=>V.asAgg e fun e=>G 89 [.agg e] fun e=>uB e fun e f=>unNil f (bif(!e)then(G 98 [.int .i64 a,.sl 7 b,.sl 1 c,.sl 1 d] fun e=>uL 1 e fun e f=>uL 1 f fun f g=>unNil g (l86_0 G k a e 0 b c f (fun e f g h i=>l86_2 G k e f 0 g h i (fun e f g=>K [.sl 1 g]))))else(bif(decide (List.length d+1≤1073741824))then(bif((decide (0≤a))&&(decide (a<(b.length:Int))))then(nthK b (Int.toNat a) fun e=>ca7 e fun e f g h i f g=>aI .i64 e fun e=>bif(e==2)then(bif((decide (0≤a))&&(decide (a<(b.length:Int))))then(nthK b (Int.toNat a) fun e=>ca7 e fun e f g h e f g=>aI .i64 h fun e=>G 86 [.int .i64 e,.sl 7 b,.sl 1 c,.sl 1 (d++[.int .i64 a])] fun e=>uL 1 e fun e f=>unNil f (bif((decide (0≤a))&&(decide (a<(b.length:Int))))then(nthK b (Int.toNat a) fun f=>ca7 f fun f g h i l g h=>aI .i64 f fun f=>bif(f==3)then(G 100 [.int .i64 a,.sl 7 b,.sl 1 c,.sl 1 e] fun f=>uL 1 f fun f g=>unNil g (K [.sl 1 f]))else(K [.sl 1 e]))else none))else none)else(bif((decide (0≤a))&&(decide (a<(b.length:Int))))then(nthK b (Int.toNat a) fun e=>ca7 e fun e f g h i f g=>aI .i64 e fun e=>bif(e==3)then(G 100 [.int .i64 a,.sl 7 b,.sl 1 c,.sl 1 (d++[.int .i64 a])] fun b=>uL 1 b fun b c=>unNil c (K [.sl 1 b]))else(K [.sl 1 (d++[.int .i64 a])]))else none))else none)else none)))else none)
abbrev g86 {R:Type} (G:ORC R) (k:Nat):LV→(LV→OV R)→OV R:=gF J124 (f86 G k)
theorem s86{R:Type}{G:ORC R}{k:Nat}(hG:Sound Tryz.prog TAB G):TL 86 (g86 G k):=
 gG J124 (by kernel_rfl) (callF_sound (L:=L86 G k) (f:=86) TAB_chk MO hG Tryz.func86 (sg:=S86) (by kernel_rfl) (by kernel_rfl) (las [0,2] (by kernel_rfl) ⟨loopIs J122 k (fun K X=>b86_0 G k X (koX J121 P86_0x K)) P86_0h P86_0x default (by kernel_rfl) (by kernel_rfl) (by kernel_rfl) (fun K X=>by kernel_rfl) (fun S K=>by kernel_rfl),loopIs J122 k (fun K X=>b86_2 G k X (koX J123 P86_2x K)) P86_2h P86_2x default (by kernel_rfl) (by kernel_rfl) (by kernel_rfl) (fun K X=>by kernel_rfl) (fun S K=>by kernel_rfl),trivial⟩))
def P87_0h:Pat:={tmps:=unds [pL,pU,pU,.var (.sl 1) (.own true),pI] 12 [],boxes:=nons [] 17 []}
def P87_0x:Pat:={tmps:=unds [pU,pU,pU,.var (.sl 1) (.own true)] 13 [],boxes:=nons [] 17 []}
def b87_0{R:Type}(G:ORC R)(k:Nat)(X:Cu R J38)(Ko:Cu R J4)(a b:LV)(c:Int):OV R:=
 (bif(decide (c<128))then(G 78 [.sl 1 a,.int .i64 c] fun d=>uB d fun d e=>unNil e (bif d then(bif(decide (List.length b+1≤1073741824))then(X a (b++[.int .i64 c]) (IntKind.i64.wrap (c+1)))else none)else(X a b (IntKind.i64.wrap (c+1)))))else(Ko b))
def l87_0g{R:Type}(G:ORC R)(k:Nat)(Ko:Cu R J4)(j:Nat):Cu R J38:=lup J38 (fun X=>b87_0 G k X Ko) j
def l87_0{R:Type}(G:ORC R)(k:Nat)(a b:LV)(c:Int)(Ko:Cu R J4):OV R:=l87_0g G k Ko k a b c
def L87{R:Type}(G:ORC R)(k:Nat):Nat→St→(Ex→St→OV R)→OV R
 |0,S,K=>P87_0h.mat S fun vs=>uc J38 (l87_0g G k (koX J4 P87_0x K) k) vs none
 |_,_,_=>none
def f87{R:Type}(G:ORC R)(k:Nat)(a:LV)(K:LV→OV R):OV R:=
 (l87_0 G k a [] 0 (fun a=>K [.sl 1 a]))
abbrev g87 {R:Type} (G:ORC R) (k:Nat):LV→(LV→OV R)→OV R:=gF J4 (f87 G k)
theorem s87{R:Type}{G:ORC R}{k:Nat}(hG:Sound Tryz.prog TAB G):TL 87 (g87 G k):=
 gG J4 (by kernel_rfl) (callF_sound (L:=L87 G k) (f:=87) TAB_chk MO hG Tryz.func87 (sg:=S87) (by kernel_rfl) (by kernel_rfl) (las [0] (by kernel_rfl) ⟨loopIs J38 k (fun K X=>b87_0 G k X (koX J4 P87_0x K)) P87_0h P87_0x default (by kernel_rfl) (by kernel_rfl) (by kernel_rfl) (fun K X=>by kernel_rfl) (fun S K=>by kernel_rfl),trivial⟩))
def f65{R:Type}(G:ORC R)(k:Nat)(a:LV)(K:LV→OV R):OV R:=
 (G 86 [.int .i64 0,.sl 7 a,.sl 1 [],.sl 1 []] fun a=>uL 1 a fun a b=>unNil b (G 87 [.sl 1 a] fun a=>uL 1 a fun a b=>unNil b (K [.sl 1 a])))
abbrev g65 {R:Type} (G:ORC R) (k:Nat):LV→(LV→OV R)→OV R:=gF J52 (f65 G k)
theorem s65{R:Type}{G:ORC R}{k:Nat}(hG:Sound Tryz.prog TAB G):TL 65 (g65 G k):=
 gG J52 (by kernel_rfl) (callF_sound (L:=fun _ _ _=>none) (f:=65) TAB_chk MO hG Tryz.func65 (sg:=S65) (by kernel_rfl) (by kernel_rfl) (las [] (by kernel_rfl) trivial))
def P107_0h:Pat:={tmps:=unds [.var (.sl 7) .ro,pI,pU,pU,pU,.var (.sl 1) (.own true),pU,pU,.var (.sl 7) .ro,pI,pI] 19 [],boxes:=nons [] 30 []}
def P107_0x:Pat:={tmps:=unds [] 5 (unds [.var (.sl 1) (.own true)] 24 []),boxes:=nons [] 30 []}
def b107_0{R:Type}(G:ORC R)(k:Nat)(X:Cu R J133)(Ko:Cu R J4)(a:LV)(b:Int)(c d:LV)(e f:Int):OV R:=
 (bif(decide (f<e))then(bif((decide (0≤f))&&(decide (f<(d.length:Int))))then(nthK d (Int.toNat f) fun g=>V.asAgg g fun g=>ce7 g fun g h i l m n o=>aI .i64 g fun g=>aI .i64 h fun g=>aI .i64 i fun h=>aI .i64 l fun h=>aI .i64 m fun h=>aI .i64 n fun h=>V.asStr o fun h=>G 94 [.sl 7 a,.int .i64 b] fun h=>uB h fun h i=>unNil i (bif h then(bif(g==b)then(bif(decide (List.length c+1≤1073741824))then(X a b (c++[.int .i64 f]) d e (IntKind.i64.wrap (f+1)))else none)else(X a b c d e (IntKind.i64.wrap (f+1))))else(X a b c d e (IntKind.i64.wrap (f+1)))))else none)else(Ko c))
def l107_0g{R:Type}(G:ORC R)(k:Nat)(Ko:Cu R J4)(j:Nat):Cu R J133:=lup J133 (fun X=>b107_0 G k X Ko) j
def l107_0{R:Type}(G:ORC R)(k:Nat)(a:LV)(b:Int)(c d:LV)(e f:Int)(Ko:Cu R J4):OV R:=l107_0g G k Ko k a b c d e f
def L107{R:Type}(G:ORC R)(k:Nat):Nat→St→(Ex→St→OV R)→OV R
 |0,S,K=>P107_0h.mat S fun vs=>uc J133 (l107_0g G k (koX J4 P107_0x K) k) vs none
 |_,_,_=>none
def f107{R:Type}(G:ORC R)(k:Nat)(a:LV)(b:Int)(K:LV→OV R):OV R:=
 (l107_0 G k a b [] a (a.length:Int) 0 (fun a=>K [.sl 1 a]))
abbrev g107 {R:Type} (G:ORC R) (k:Nat):LV→(LV→OV R)→OV R:=gF J117 (f107 G k)
theorem s107{R:Type}{G:ORC R}{k:Nat}(hG:Sound Tryz.prog TAB G):TL 107 (g107 G k):=
 gG J117 (by kernel_rfl) (callF_sound (L:=L107 G k) (f:=107) TAB_chk MO hG Tryz.func107 (sg:=S107) (by kernel_rfl) (by kernel_rfl) (las [0] (by kernel_rfl) ⟨loopIs J133 k (fun K X=>b107_0 G k X (koX J4 P107_0x K)) P107_0h P107_0x default (by kernel_rfl) (by kernel_rfl) (by kernel_rfl) (fun K X=>by kernel_rfl) (fun S K=>by kernel_rfl),trivial⟩))
def f82{R:Type}(G:ORC R)(k:Nat)(a b c d e b:Int)(b:ByteArray)(K:LV→OV R):OV R:=
 (bif(a==4)then(K [.bool true])else(K [.bool (a==5)]))
abbrev g82 {R:Type} (G:ORC R) (k:Nat):LV→(LV→OV R)→OV R:=gF J118 (f82 G k)
theorem s82{R:Type}{G:ORC R}{k:Nat}(hG:Sound Tryz.prog TAB G):TL 82 (g82 G k):=
 gG J118 (by kernel_rfl) (callF_sound (L:=fun _ _ _=>none) (f:=82) TAB_chk MO hG Tryz.func82 (sg:=S82) (by kernel_rfl) (by kernel_rfl) (las [] (by kernel_rfl) trivial))
def f108{R:Type}(G:ORC R)(k:Nat)(a:Int)(b:LV)(K:LV→OV R):OV R:=
 (bif((decide (0≤a))&&(decide (a<(b.length:Int))))then(nthK b (Int.toNat a) fun a=>V.asAgg a fun a=>G 82 [.agg a] fun a=>uB a fun a b=>unNil b (K [.bool a]))else none)
abbrev g108 {R:Type} (G:ORC R) (k:Nat):LV→(LV→OV R)→OV R:=gF J134 (f108 G k)
theorem s108{R:Type}{G:ORC R}{k:Nat}(hG:Sound Tryz.prog TAB G):TL 108 (g108 G k):=
 gG J134 (by kernel_rfl) (callF_sound (L:=fun _ _ _=>none) (f:=108) TAB_chk MO hG Tryz.func108 (sg:=S108) (by kernel_rfl) (by kernel_rfl) (las [] (by kernel_rfl) trivial))
def P65648_0h:Pat:={tmps:=unds [pL,.stat (.one (.fn 108 [.ptr 0 0]) .pt)] 5 (unds [pI,pI] 10 []),boxes:=nons [some [.var (.sl 7) .ro true]] 19 []}
def P65648_0x:Pat:={tmps:=unds [] 19 [],boxes:=nons [some [.var (.sl 7) .ro true]] 19 []}
def P65648_0r:Pat:={tmps:=unds [pU,pU,pU,pU,pI] 14 [],boxes:=nons [some [.var (.sl 7) .ro true]] 19 []}
def b65648_0{R:Type}(G:ORC R)(k:Nat)(X:Cu R J145)(Ko:Cu R J52)(Kr:Cu R J134)(a:LV)(b c:Int)(d:LV):OV R:=
 (bif(decide (c<b))then(bif((decide (0≤c))&&(decide (c<(a.length:Int))))then(nthK a (Int.toNat c) fun e=>aI .i64 e fun e=>G 108 [.int .i64 e,.sl 7 d] fun e=>uB e fun e f=>unNil f (bif e then(Kr c d)else(X a b (IntKind.i64.wrap (c+1)) d)))else none)else(Ko d))
def l65648_0g{R:Type}(G:ORC R)(k:Nat)(Ko:Cu R J52)(Kr:Cu R J134)(j:Nat):Cu R J145:=lup J145 (fun X=>b65648_0 G k X Ko Kr) j
def l65648_0{R:Type}(G:ORC R)(k:Nat)(a:LV)(b c:Int)(d:LV)(Ko:Cu R J52)(Kr:Cu R J134):OV R:=l65648_0g G k Ko Kr k a b c d
def L65648{R:Type}(G:ORC R)(k:Nat):Nat→St→(Ex→St→OV R)→OV R
 |0,S,K=>P65648_0h.mat S fun vs=>uc J145 (l65648_0g G k (koX J52 P65648_0x K) (koR J134 P65648_0r K) k) vs none
 |_,_,_=>none
def f65648{R:Type}(G:ORC R)(k:Nat)(a b:LV)(K:LV→OV R):OV R:=
 (l65648_0 G k a (a.length:Int) 0 b (fun a=>K [.int .i64 (-1)]) (fun a b=>K [.int .i64 a]))
abbrev g65648 {R:Type} (G:ORC R) (k:Nat):LV→(LV→OV R)→OV R:=gF J146 (f65648 G k)
theorem s65648{R:Type}{G:ORC R}{k:Nat}(hG:Sound Tryz.prog TAB G):TL 65648 (g65648 G k):=
 gG J146 (by kernel_rfl) (callF_sound (L:=L65648 G k) (f:=65648) TAB_chk MO hG Tryz.func112 (sg:=S65648) (by kernel_rfl) (by kernel_rfl) (las [0] (by kernel_rfl) ⟨loopIs J145 k (fun K X=>b65648_0 G k X (koX J52 P65648_0x K) (koR J134 P65648_0r K)) P65648_0h P65648_0x P65648_0r (by kernel_rfl) (by kernel_rfl) (by kernel_rfl) (fun K X=>by kernel_rfl) (fun S K=>by kernel_rfl),trivial⟩))
def P65642_0h:Pat:={tmps:=unds [.var (.sl 1) (.own true),.stat (.one (.fn 108 [.ptr 0 0]) .pt),pU,pU,pU,pI,pI] 35 [],boxes:=nons [some [.var (.sl 7) .ro true]] 42 []}
def P65642_0x:Pat:={tmps:=unds [.var (.sl 1) (.own true),pU,pU,pU,pU,pI] 36 [],boxes:=nons [some [.var (.sl 7) .ro true]] 42 []}
def b65642_0{R:Type}(G:ORC R)(k:Nat)(X:Cu R J145)(Ko:Cu R J144)(a:LV)(b c:Int)(d:LV):OV R:=
 (bif(decide (c<(a.length:Int)))then(bif((decide (0≤c))&&(decide (c<(a.length:Int))))then(nthK a (Int.toNat c) fun e=>aI .i64 e fun e=>G 108 [.int .i64 e,.sl 7 d] fun f=>uB f fun f g=>unNil g (bif(!f)then(bif((decide (0≤b))&&(decide (b<(a.length:Int))))then(nthK a (Int.toNat b) fun f=>X (List.set a (Int.toNat b) (.int .i64 e)) (IntKind.i64.wrap (b+1)) (IntKind.i64.wrap (c+1)) d)else none)else(X a b (IntKind.i64.wrap (c+1)) d)))else none)else(Ko a b d))
def l65642_0g{R:Type}(G:ORC R)(k:Nat)(Ko:Cu R J144)(j:Nat):Cu R J145:=lup J145 (fun X=>b65642_0 G k X Ko) j
def l65642_0{R:Type}(G:ORC R)(k:Nat)(a:LV)(b c:Int)(d:LV)(Ko:Cu R J144):OV R:=l65642_0g G k Ko k a b c d
def L65642{R:Type}(G:ORC R)(k:Nat):Nat→St→(Ex→St→OV R)→OV R
 |0,S,K=>P65642_0h.mat S fun vs=>uc J145 (l65642_0g G k (koX J144 P65642_0x K) k) vs none
 |_,_,_=>none
def f65642{R:Type}(G:ORC R)(k:Nat)(a b:LV)(K:LV→OV R):OV R:=
 (G 65648 [.sl 1 a,.sl 7 b] fun c=>uI .i64 c fun c d=>unNil d (bif(c==(-1))then(K [.sl 1 a])else(l65642_0 G k a c (IntKind.i64.wrap (c+1)) b (fun a b c=>bif((decide (0≤b))&&(decide (b<(a.length:Int))))then(bif(decide ((Int.toNat b)≤(List.length a)))then(bif((decide (0≤b))&&(decide (b≤((List.length ((List.take (Int.toNat b) a)++(List.replicate ((List.length a)-(Int.toNat b)) (V.int .i64 0))):Nat):Int))))then(K [.sl 1 (List.take (Int.toNat b) ((List.take (Int.toNat b) a)++(List.replicate ((List.length a)-(Int.toNat b)) (V.int .i64 0))))])else none)else none)else none))))
abbrev g65642 {R:Type} (G:ORC R) (k:Nat):LV→(LV→OV R)→OV R:=gF J146 (f65642 G k)
theorem s65642{R:Type}{G:ORC R}{k:Nat}(hG:Sound Tryz.prog TAB G):TL 65642 (g65642 G k):=
 gG J146 (by kernel_rfl) (callF_sound (L:=L65642 G k) (f:=65642) TAB_chk MO hG Tryz.func106 (sg:=S65642) (by kernel_rfl) (by kernel_rfl) (las [0] (by kernel_rfl) ⟨loopIs J145 k (fun K X=>b65642_0 G k X (koX J144 P65642_0x K)) P65642_0h P65642_0x default (by kernel_rfl) (by kernel_rfl) (by kernel_rfl) (fun K X=>by kernel_rfl) (fun S K=>by kernel_rfl),trivial⟩))
def f95{R:Type}(G:ORC R)(k:Nat)(a:LV)(b:Int)(K:LV→OV R):OV R:=
 (G 107 [.sl 7 a,.int .i64 b] fun b=>uL 1 b fun b c=>unNil c (G 65642 [.sl 1 b,.sl 7 a] fun a=>uL 1 a fun a b=>unNil b (K [.sl 1 a])))
abbrev g95 {R:Type} (G:ORC R) (k:Nat):LV→(LV→OV R)→OV R:=gF J117 (f95 G k)
theorem s95{R:Type}{G:ORC R}{k:Nat}(hG:Sound Tryz.prog TAB G):TL 95 (g95 G k):=
 gG J117 (by kernel_rfl) (callF_sound (L:=fun _ _ _=>none) (f:=95) TAB_chk MO hG Tryz.func95 (sg:=S95) (by kernel_rfl) (by kernel_rfl) (las [] (by kernel_rfl) trivial))
def f80{R:Type}(G:ORC R)(k:Nat)(a:LV)(b:Int)(K:LV→OV R):OV R:=
 (bif(decide (b≥0))then(K [.bool (decide (b<(a.length:Int)))])else(K [.bool false]))
abbrev g80 {R:Type} (G:ORC R) (k:Nat):LV→(LV→OV R)→OV R:=gF J117 (f80 G k)
theorem s80{R:Type}{G:ORC R}{k:Nat}(hG:Sound Tryz.prog TAB G):TL 80 (g80 G k):=
 gG J117 (by kernel_rfl) (callF_sound (L:=fun _ _ _=>none) (f:=80) TAB_chk MO hG Tryz.func80 (sg:=S80) (by kernel_rfl) (by kernel_rfl) (las [] (by kernel_rfl) trivial))
def f81{R:Type}(G:ORC R)(k:Nat)(a b c:LV)(a:Int)(K:LV→OV R):OV R:=
 (K [.bool (decide ((IntKind.i64.wrap (a-1))≥0)),.sl 1 c,.int .i64 (IntKind.i64.wrap (a-1))])
abbrev g81 {R:Type} (G:ORC R) (k:Nat):LV→(LV→OV R)→OV R:=gF J96 (f81 G k)
theorem s81{R:Type}{G:ORC R}{k:Nat}(hG:Sound Tryz.prog TAB G):TL 81 (g81 G k):=
 gG J96 (by kernel_rfl) (callF_sound (L:=fun _ _ _=>none) (f:=81) TAB_chk MO hG Tryz.func81 (sg:=S81) (by kernel_rfl) (by kernel_rfl) (las [] (by kernel_rfl) trivial))
def P97_0h:Pat:={tmps:=unds [pS 0,pI] 8 (unds [.stat (.ref (.b 0 2) 0),pI,pI] 15 []),boxes:=nons [some B22] 28 []}
def P97_0x:Pat:={tmps:=unds [] 28 [],boxes:=nons [some B22] 28 []}
def P97_0r:Pat:={tmps:=unds [pU,pU,pU,pU,.var .bool .pr] 23 [],boxes:=nons [some B22] 28 []}
def b97_0{R:Type}(G:ORC R)(k:Nat)(X:Cu R J119)(Ko:Cu R J96)(Kr:Cu R J128)(a b c:Int)(d e f:LV)(g:Int):OV R:=
 (bif(decide (c<b))then(bif((decide (0≤c))&&(decide (c<(f.length:Int))))then(nthK f (Int.toNat c) fun h=>V.asBool h fun h=>bif h then(G 76 [.sl 7 d,.int .i64 c,.int .i64 a] fun h=>uB h fun h i=>unNil i (bif h then(Kr false d e f g)else(X a b (IntKind.i64.wrap (c+1)) d e f g)))else(X a b (IntKind.i64.wrap (c+1)) d e f g))else none)else(Ko d e f g))
def l97_0g{R:Type}(G:ORC R)(k:Nat)(Ko:Cu R J96)(Kr:Cu R J128)(j:Nat):Cu R J119:=lup J119 (fun X=>b97_0 G k X Ko Kr) j
def l97_0{R:Type}(G:ORC R)(k:Nat)(a b c:Int)(d e f:LV)(g:Int)(Ko:Cu R J96)(Kr:Cu R J128):OV R:=l97_0g G k Ko Kr k a b c d e f g
def L97{R:Type}(G:ORC R)(k:Nat):Nat→St→(Ex→St→OV R)→OV R
 |0,S,K=>P97_0h.mat S fun vs=>uc J119 (l97_0g G k (koX J96 P97_0x K) (koR J128 P97_0r K) k) vs none
 |_,_,_=>none
def f97{R:Type}(G:ORC R)(k:Nat)(a:Int)(b c d:LV)(e:Int)(K:LV→OV R):OV R:=
 (l97_0 G k a (d.length:Int) 0 b c d e (fun a b c d=>K [.bool true,.sl 1 c,.int .i64 d]) (fun a b c d e=>K [.bool a,.sl 1 d,.int .i64 e]))
abbrev g97 {R:Type} (G:ORC R) (k:Nat):LV→(LV→OV R)→OV R:=gF J98 (f97 G k)
theorem s97{R:Type}{G:ORC R}{k:Nat}(hG:Sound Tryz.prog TAB G):TL 97 (g97 G k):=
 gG J98 (by kernel_rfl) (callF_sound (L:=L97 G k) (f:=97) TAB_chk MO hG Tryz.func97 (sg:=S97) (by kernel_rfl) (by kernel_rfl) (las [0] (by kernel_rfl) ⟨loopIs J119 k (fun K X=>b97_0 G k X (koX J96 P97_0x K) (koR J128 P97_0r K)) P97_0h P97_0x P97_0r (by kernel_rfl) (by kernel_rfl) (by kernel_rfl) (fun K X=>by kernel_rfl) (fun S K=>by kernel_rfl),trivial⟩))
def P85_0h:Pat:={tmps:=unds [pS 0] 19 (unds [pL,pI,pI] 10 []),boxes:=nons [some B22] 33 []}
def P85_0x:Pat:={tmps:=unds [] 33 [],boxes:=nons [some B22] 33 []}
def b85_0{R:Type}(G:ORC R)(k:Nat)(X:Cu R J100)(Ko:Cu R J96)(a:LV)(b c:Int)(d e f:LV)(g:Int):OV R:=
 (bif(decide (c<b))then(bif((decide (0≤c))&&(decide (c<(a.length:Int))))then(nthK a (Int.toNat c) fun h=>aI .i64 h fun h=>G 97 [.int .i64 h,.sl 7 d,.sl 1 e,.sl 1 f,.int .i64 g] fun i=>uB i fun i l=>uL 1 l fun l m=>uI .i64 m fun m n=>unNil n (bif i then(G 63 [.int .i64 h,.sl 7 d,.sl 1 e,.sl 1 l,.int .i64 m] fun h=>uL 1 h fun h i=>uI .i64 i fun i n=>unNil n (X a b (IntKind.i64.wrap (c+1)) d e h i))else(X a b (IntKind.i64.wrap (c+1)) d e l m)))else none)else(Ko d e f g))
def l85_0g{R:Type}(G:ORC R)(k:Nat)(Ko:Cu R J96)(j:Nat):Cu R J100:=lup J100 (fun X=>b85_0 G k X Ko) j
def l85_0{R:Type}(G:ORC R)(k:Nat)(a:LV)(b c:Int)(d e f:LV)(g:Int)(Ko:Cu R J96):OV R:=l85_0g G k Ko k a b c d e f g
def L85{R:Type}(G:ORC R)(k:Nat):Nat→St→(Ex→St→OV R)→OV R
 |0,S,K=>P85_0h.mat S fun vs=>uc J100 (l85_0g G k (koX J96 P85_0x K) k) vs none
 |_,_,_=>none
def f85{R:Type}(G:ORC R)(k:Nat)(a:Int)(b c d:LV)(e:Int)(K:LV→OV R):OV R:=
 (bif((decide (0≤a))&&(decide (a<(b.length:Int))))then(nthK b (Int.toNat a) fun f=>ca7 f fun f g h i l g h=>aI .i64 f fun f=>bif(f !=3)then(K [.sl 1 d,.int .i64 e])else(G 95 [.sl 7 b,.int .i64 a] fun a=>uL 1 a fun a f=>unNil f (l85_0 G k a (a.length:Int) 0 b c d e (fun a b c d=>K [.sl 1 c,.int .i64 d]))))else none)
abbrev g85 {R:Type} (G:ORC R) (k:Nat):LV→(LV→OV R)→OV R:=gF J98 (f85 G k)
theorem s85{R:Type}{G:ORC R}{k:Nat}(hG:Sound Tryz.prog TAB G):TL 85 (g85 G k):=
 gG J98 (by kernel_rfl) (callF_sound (L:=L85 G k) (f:=85) TAB_chk MO hG Tryz.func85 (sg:=S85) (by kernel_rfl) (by kernel_rfl) (las [0] (by kernel_rfl) ⟨loopIs J100 k (fun K X=>b85_0 G k X (koX J96 P85_0x K)) P85_0h P85_0x default (by kernel_rfl) (by kernel_rfl) (by kernel_rfl) (fun K X=>by kernel_rfl) (fun S K=>by kernel_rfl),trivial⟩))
def P63_0h:Pat:={tmps:=unds [pS 0,pI,pU,pU,pL] 27 (unds [pL,pI,pI] 53 []),boxes:=nons [some B22] 88 []}
def P63_0x:Pat:={tmps:=unds [pS 0,pI,pU,pU,pL] 83 [],boxes:=nons [some B22] 88 []}
def P63_2h:Pat:={tmps:=unds [pS 0,pI] 40 (unds [pL,pI,pI] 43 []),boxes:=nons [some B22] 88 []}
def P63_2x:Pat:={tmps:=unds [] 88 [],boxes:=nons [some B22] 88 []}
def b63_0{R:Type}(G:ORC R)(k:Nat)(X:Cu R J95)(Ko:Cu R J94)(a:Int)(b c:LV)(d e:Int)(f g h:LV)(i:Int):OV R:=
 (bif(decide (e<d))then(bif((decide (0≤e))&&(decide (e<(c.length:Int))))then(nthK c (Int.toNat e) fun l=>aI .i64 l fun l=>G 63 [.int .i64 l,.sl 7 f,.sl 1 g,.sl 1 h,.int .i64 i] fun l=>uL 1 l fun l m=>uI .i64 m fun m n=>unNil n (X a b c d (IntKind.i64.wrap (e+1)) f g l m))else none)else(Ko a b f g h i))
def l63_0g{R:Type}(G:ORC R)(k:Nat)(Ko:Cu R J94)(j:Nat):Cu R J95:=lup J95 (fun X=>b63_0 G k X Ko) j
def l63_0{R:Type}(G:ORC R)(k:Nat)(a:Int)(b c:LV)(d e:Int)(f g h:LV)(i:Int)(Ko:Cu R J94):OV R:=l63_0g G k Ko k a b c d e f g h i
def b63_2{R:Type}(G:ORC R)(k:Nat)(X:Cu R J97)(Ko:Cu R J96)(a:Int)(b:LV)(c d:Int)(e f g:LV)(h:Int):OV R:=
 (bif(decide (d<c))then(bif((decide (0≤d))&&(decide (d<(b.length:Int))))then(nthK b (Int.toNat d) fun i=>aI .i64 i fun i=>bif((decide (0≤a))&&(decide (a<(e.length:Int))))then(nthK e (Int.toNat a) fun l=>ca7 l fun l m n o l p n=>aI .i64 m fun l=>G 84 [.int .i64 i,.int .i64 l,.sl 7 e,.sl 1 f,.sl 1 g,.int .i64 h] fun i=>uL 1 i fun i l=>uI .i64 l fun l m=>unNil m (X a b c (IntKind.i64.wrap (d+1)) e f i l))else none)else none)else(Ko e f g h))
def l63_2g{R:Type}(G:ORC R)(k:Nat)(Ko:Cu R J96)(j:Nat):Cu R J97:=lup J97 (fun X=>b63_2 G k X Ko) j
def l63_2{R:Type}(G:ORC R)(k:Nat)(a:Int)(b:LV)(c d:Int)(e f g:LV)(h:Int)(Ko:Cu R J96):OV R:=l63_2g G k Ko k a b c d e f g h
def L63{R:Type}(G:ORC R)(k:Nat):Nat→St→(Ex→St→OV R)→OV R
 |0,S,K=>P63_0h.mat S fun vs=>uc J95 (l63_0g G k (koX J94 P63_0x K) k) vs none
 |2,S,K=>P63_2h.mat S fun vs=>uc J97 (l63_2g G k (koX J96 P63_2x K) k) vs none
 |_,_,_=>none
def f63{R:Type}(G:ORC R)(k:Nat)(a:Int)(b c d:LV)(e:Int)(K:LV→OV R):OV R:=
 (G 80 [.sl 7 b,.int .i64 a] fun f=>uB f fun f g=>unNil g (bif(!f)then(K [.sl 1 d,.int .i64 e])else(G 81 [.sl 7 b,.sl 1 c,.sl 1 d,.int .i64 e] fun d=>uB d fun d e=>uL 1 e fun e f=>uI .i64 f fun f g=>unNil g (bif(!d)then(K [.sl 1 e,.int .i64 f])else(bif((decide (0≤a))&&(decide (a<(b.length:Int))))then(nthK b (Int.toNat a) fun d=>V.asAgg d fun d=>G 82 [.agg d] fun d=>uB d fun d g=>unNil g (bif d then(G 83 [.int .i64 a,.sl 7 b,.sl 1 c,.sl 1 e,.int .i64 f] fun d=>uL 1 d fun d g=>uL 1 g fun g h=>uI .i64 h fun h i=>unNil i (l63_0 G k a d d (d.length:Int) 0 b c g h (fun d g h i l m=>l63_2 G k d g (g.length:Int) 0 h i l m (fun d g h i=>K [.sl 1 h,.int .i64 i]))))else(bif((decide (0≤a))&&(decide (a<(e.length:Int))))then(nthK e (Int.toNat a) fun d=>bif((decide (0≤a))&&(decide (a<(b.length:Int))))then(nthK b (Int.toNat a) fun d=>ca7 d fun d g h i l g h=>aI .i64 d fun d=>bif(d==2)then(bif((decide (0≤a))&&(decide (a<(b.length:Int))))then(nthK b (Int.toNat a) fun d=>ca7 d fun d g h i d g h=>aI .i64 i fun d=>G 63 [.int .i64 d,.sl 7 b,.sl 1 c,.sl 1 (List.set e (Int.toNat a) (.bool true)),.int .i64 f] fun d=>uL 1 d fun d g=>uI .i64 g fun g h=>unNil h (G 85 [.int .i64 a,.sl 7 b,.sl 1 c,.sl 1 d,.int .i64 g] fun d=>uL 1 d fun d g=>uI .i64 g fun g h=>unNil h (K [.sl 1 d,.int .i64 g])))else none)else(G 85 [.int .i64 a,.sl 7 b,.sl 1 c,.sl 1 (List.set e (Int.toNat a) (.bool true)),.int .i64 f] fun a=>uL 1 a fun a b=>uI .i64 b fun b c=>unNil c (K [.sl 1 a,.int .i64 b])))else none)else none)))else none)))))
abbrev g63 {R:Type} (G:ORC R) (k:Nat):LV→(LV→OV R)→OV R:=gF J98 (f63 G k)
theorem s63{R:Type}{G:ORC R}{k:Nat}(hG:Sound Tryz.prog TAB G):TL 63 (g63 G k):=
 gG J98 (by kernel_rfl) (callF_sound (L:=L63 G k) (f:=63) TAB_chk MO hG Tryz.func63 (sg:=S63) (by kernel_rfl) (by kernel_rfl) (las [0,2] (by kernel_rfl) ⟨loopIs J95 k (fun K X=>b63_0 G k X (koX J94 P63_0x K)) P63_0h P63_0x default (by kernel_rfl) (by kernel_rfl) (by kernel_rfl) (fun K X=>by kernel_rfl) (fun S K=>by kernel_rfl),loopIs J97 k (fun K X=>b63_2 G k X (koX J96 P63_2x K)) P63_2h P63_2x default (by kernel_rfl) (by kernel_rfl) (by kernel_rfl) (fun K X=>by kernel_rfl) (fun S K=>by kernel_rfl),trivial⟩))
def P64_0h:Pat:={tmps:=unds [pU,pU,pU,.var (.sl 1) (.own true)] 5 (unds [.stat (.ref (.b 0 2) 0),pI,pI] 11 []),boxes:=nons [some B22] 23 []}
def P64_0x:Pat:={tmps:=unds [pU,pU,pU,.var (.sl 1) (.own true)] 19 [],boxes:=nons [some B22] 23 []}
def b64_0{R:Type}(G:ORC R)(k:Nat)(X:Cu R J100)(Ko:Cu R J99)(a:LV)(b c:Int)(d e f:LV)(g:Int):OV R:=
 (bif(decide (c<b))then(bif((decide (0≤c))&&(decide (c<(f.length:Int))))then(nthK f (Int.toNat c) fun h=>V.asBool h fun h=>bif h then(bif(decide (List.length a+1≤1073741824))then(X (a++[.int .i64 c]) b (IntKind.i64.wrap (c+1)) d e f g)else none)else(X a b (IntKind.i64.wrap (c+1)) d e f g))else none)else(Ko a d e f g))
def l64_0g{R:Type}(G:ORC R)(k:Nat)(Ko:Cu R J99)(j:Nat):Cu R J100:=lup J100 (fun X=>b64_0 G k X Ko) j
def l64_0{R:Type}(G:ORC R)(k:Nat)(a:LV)(b c:Int)(d e f:LV)(g:Int)(Ko:Cu R J99):OV R:=l64_0g G k Ko k a b c d e f g
def L64{R:Type}(G:ORC R)(k:Nat):Nat→St→(Ex→St→OV R)→OV R
 |0,S,K=>P64_0h.mat S fun vs=>uc J100 (l64_0g G k (koX J99 P64_0x K) k) vs none
 |_,_,_=>none
def f64{R:Type}(G:ORC R)(k:Nat)(a b c:LV)(d:Int)(K:LV→OV R):OV R:=
 (l64_0 G k [] (c.length:Int) 0 a b c d (fun a b c d e=>K [.sl 1 a,.sl 1 d,.int .i64 e]))
abbrev g64 {R:Type} (G:ORC R) (k:Nat):LV→(LV→OV R)→OV R:=gF J96 (f64 G k)
theorem s64{R:Type}{G:ORC R}{k:Nat}(hG:Sound Tryz.prog TAB G):TL 64 (g64 G k):=
 gG J96 (by kernel_rfl) (callF_sound (L:=L64 G k) (f:=64) TAB_chk MO hG Tryz.func64 (sg:=S64) (by kernel_rfl) (by kernel_rfl) (las [0] (by kernel_rfl) ⟨loopIs J100 k (fun K X=>b64_0 G k X (koX J99 P64_0x K)) P64_0h P64_0x default (by kernel_rfl) (by kernel_rfl) (by kernel_rfl) (fun K X=>by kernel_rfl) (fun S K=>by kernel_rfl),trivial⟩))
def f29{R:Type}(G:ORC R)(k:Nat)(a:LV)(K:LV→OV R):OV R:=
 (bif(((decide (0≤(a.length:Int)))&&(decide ((a.length:Int)≤(a.length:Int))))&&(decide ((a.length:Int)≤1073741824)))then(G 63 [.int .i64 0,.sl 7 a,.sl 1 [],.sl 1 (List.replicate (Int.toNat (a.length:Int)) (V.bool false)),.int .i64 65536] fun b=>uL 1 b fun b c=>uI .i64 c fun c d=>unNil d (G 64 [.sl 7 a,.sl 1 [],.sl 1 b,.int .i64 c] fun a=>uL 1 a fun a b=>uL 1 b fun b c=>uI .i64 c fun b c=>unNil c (K [.sl 1 a])))else none)
abbrev g29 {R:Type} (G:ORC R) (k:Nat):LV→(LV→OV R)→OV R:=gF J52 (f29 G k)
theorem s29{R:Type}{G:ORC R}{k:Nat}(hG:Sound Tryz.prog TAB G):TL 29 (g29 G k):=
 gG J52 (by kernel_rfl) (callF_sound (L:=fun _ _ _=>none) (f:=29) TAB_chk MO hG Tryz.func29 (sg:=S29) (by kernel_rfl) (by kernel_rfl) (las [] (by kernel_rfl) trivial))
def P31_0h:Pat:={tmps:=unds [pU,pS 1,pU,.var (.sl 1) (.own true),pL,pI] 24 [],boxes:=nons [none,some B0] 28 []}
def P31_0x:Pat:={tmps:=unds [pU,pS 1,pU,.var (.sl 1) (.own true)] 26 [],boxes:=nons [none,some B0] 28 []}
def b31_0{R:Type}(G:ORC R)(k:Nat)(X:Cu R J55)(Ko:Cu R J54)(a b:LV)(c:Int)(d:ByteArray)(e f:Int)(g h i l m n:LV):OV R:=
 (bif(decide (c<(b.length:Int)))then(bif((decide (0≤c))&&(decide (c<(b.length:Int))))then(nthK b (Int.toNat c) fun o=>aI .i64 o fun o=>bif((decide (0≤o))&&(decide (o<(l.length:Int))))then(nthK l (Int.toNat o) fun o=>ca7 o fun o p q r o p q=>aI .i64 o fun o=>bif(decide (List.length a+1≤1073741824))then(X (a++[.int .i64 o]) b (IntKind.i64.wrap (c+1)) d e f g h i l m n)else none)else none)else none)else(Ko a d e f g h i l m n))
def l31_0g{R:Type}(G:ORC R)(k:Nat)(Ko:Cu R J54)(j:Nat):Cu R J55:=lup J55 (fun X=>b31_0 G k X Ko) j
def l31_0{R:Type}(G:ORC R)(k:Nat)(a b:LV)(c:Int)(d:ByteArray)(e f:Int)(g h i l m n:LV)(Ko:Cu R J54):OV R:=l31_0g G k Ko k a b c d e f g h i l m n
def L31{R:Type}(G:ORC R)(k:Nat):Nat→St→(Ex→St→OV R)→OV R
 |0,S,K=>P31_0h.mat S fun vs=>uc J55 (l31_0g G k (koX J54 P31_0x K) k) vs none
 |_,_,_=>none
def f31{R:Type}(G:ORC R)(k:Nat)(a:ByteArray)(b c:Int)(d e f g h i:LV)(K:LV→OV R):OV R:=
 (G 65 [.sl 7 g] fun l=>uL 1 l fun l m=>unNil m (l31_0 G k [] l 0 a b c d e f g h i (fun a b c d e f g h i l=>G 61 [.agg [.str b,.int .i64 c,.int .i64 d,.sl 1 e,.sl 1 f,.sl 1 g,.sl 7 h,.sl 6 i,.sl 1 l],.sl 1 a] fun a=>uL 1 a fun a b=>unNil b (K [.sl 1 a]))))
abbrev g31 {R:Type} (G:ORC R) (k:Nat):LV→(LV→OV R)→OV R:=gF J13 (f31 G k)
theorem s31{R:Type}{G:ORC R}{k:Nat}(hG:Sound Tryz.prog TAB G):TL 31 (g31 G k):=
 gG J13 (by kernel_rfl) (callF_sound (L:=L31 G k) (f:=31) TAB_chk MO hG Tryz.func31 (sg:=S31) (by kernel_rfl) (by kernel_rfl) (las [0] (by kernel_rfl) ⟨loopIs J55 k (fun K X=>b31_0 G k X (koX J54 P31_0x K)) P31_0h P31_0x default (by kernel_rfl) (by kernel_rfl) (by kernel_rfl) (fun K X=>by kernel_rfl) (fun S K=>by kernel_rfl),trivial⟩))
def f12{R:Type}(G:ORC R)(k:Nat)(a:ByteArray)(b c:Int)(d e f g h i:LV)(K:LV→OV R):OV R:=
 (G 31 [.agg [.str a,.int .i64 b,.int .i64 c,.sl 1 d,.sl 1 e,.sl 1 f,.sl 7 g,.sl 6 h,.sl 1 i]] fun l=>uL 1 l fun l m=>unNil m (G 27 [.agg [.str a,.int .i64 b,.int .i64 c,.sl 1 d,.sl 1 e,.sl 1 f,.sl 7 g,.sl 6 h,.sl 1 i],.bool false,.sl 1 [],.sl 1 l] fun a=>uA a fun a b=>uL 1 a fun a c=>uL 1 c fun c d=>uL 1 d fun d e=>uB e fun e f=>unNil f (unNil b (K [.agg [.sl 1 a,.sl 1 c,.sl 1 d,.bool (decide ((a.length:Int)>0))]]))))
abbrev g12 {R:Type} (G:ORC R) (k:Nat):LV→(LV→OV R)→OV R:=gF J13 (f12 G k)
theorem s12{R:Type}{G:ORC R}{k:Nat}(hG:Sound Tryz.prog TAB G):TL 12 (g12 G k):=
 gG J13 (by kernel_rfl) (callF_sound (L:=fun _ _ _=>none) (f:=12) TAB_chk MO hG Tryz.func12 (sg:=S12) (by kernel_rfl) (by kernel_rfl) (las [] (by kernel_rfl) trivial))
def P11_0h:Pat:={tmps:=unds [pU,pS 1,pS 2,pS 16] 15 (unds [pL,pI,pI] 14 []),boxes:=nons [none,some B0,some B1] 13 (nons [some B3] 19 [])}
def P11_0x:Pat:={tmps:=unds [pU,pU,pS 2,pS 16] 32 [],boxes:=nons [none,none,some B1] 13 (nons [some B3] 19 [])}
def b11_0{R:Type}(G:ORC R)(k:Nat)(X:Cu R J12)(Ko:Cu R J11)(a:LV)(b c:Int)(d:ByteArray)(e f:Int)(g h i l m n o p q:LV)(r:Bool)(s:ByteArray)(t u:Int)(v w x y z A:LV)(B:Bool)(C D E F:LV):OV R:=
 (bif(decide (c<b))then(bif((decide (0≤c))&&(decide (c<(a.length:Int))))then(nthK a (Int.toNat c) fun H=>aI .i64 H fun H=>bif((decide (0≤H))&&(decide (H<(l.length:Int))))then(nthK l (Int.toNat H) fun H=>ca7 H fun H I J L H I J=>aI .i64 H fun H=>G 30 [.int .i64 H,.str s,.int .i64 t,.int .i64 u,.sl 1 v,.sl 1 w,.sl 1 x,.sl 7 y,.sl 6 z,.sl 1 A,.bool B,.sl 1 C,.sl 1 D,.sl 1 E,.sl 1 F] fun H=>uS H fun H I=>uI .i64 I fun I J=>uI .i64 J fun J L=>uB L fun L M=>uL 1 M fun M N=>unNil N (X a b (IntKind.i64.wrap (c+1)) d e f g h i l m n o p q r H I J v w x y z A L C D M F))else none)else none)else(Ko o p q r s t u v w x y z A B C D E F))
def l11_0g{R:Type}(G:ORC R)(k:Nat)(Ko:Cu R J11)(j:Nat):Cu R J12:=lup J12 (fun X=>b11_0 G k X Ko) j
def l11_0{R:Type}(G:ORC R)(k:Nat)(a:LV)(b c:Int)(d:ByteArray)(e f:Int)(g h i l m n o p q:LV)(r:Bool)(s:ByteArray)(t u:Int)(v w x y z A:LV)(B:Bool)(C D E F:LV)(Ko:Cu R J11):OV R:=l11_0g G k Ko k a b c d e f g h i l m n o p q r s t u v w x y z A B C D E F
def L11{R:Type}(G:ORC R)(k:Nat):Nat→St→(Ex→St→OV R)→OV R
 |0,S,K=>P11_0h.mat S fun vs=>uc J12 (l11_0g G k (koX J11 P11_0x K) k) vs none
 |_,_,_=>none
def f11{R:Type}(G:ORC R)(k:Nat)(a:ByteArray)(b c:Int)(d e f g h i:LV)(K:LV→OV R):OV R:=
 (bif(((decide (0≤(h.length:Int)))&&(decide ((h.length:Int)≤(h.length:Int))))&&(decide ((h.length:Int)≤1073741824)))then(bif(((decide (0≤(i.length:Int)))&&(decide ((i.length:Int)≤(i.length:Int))))&&(decide ((i.length:Int)≤1073741824)))then(G 29 [.sl 7 g] fun l=>uL 1 l fun l m=>unNil m (l11_0 G k l (l.length:Int) 0 a b c d e f g h i [] [] [] false a b c d e f g h i false [] (List.replicate (Int.toNat (h.length:Int)) (V.bool false)) (List.replicate (Int.toNat (i.length:Int)) (V.bool false)) [] (fun a b c d a b c d e f g h i l m n o p=>G 26 [.bool true,.str a,.int .i64 b,.int .i64 c,.sl 1 d,.sl 1 e,.sl 1 f,.sl 7 g,.sl 6 h,.sl 1 i,.bool l,.sl 1 m,.sl 1 n,.sl 1 o,.sl 1 p] fun a=>uA a fun a b=>uL 1 a fun a c=>uL 1 c fun c d=>uL 1 d fun d e=>uB e fun e f=>unNil f (uS b fun b f=>uI .i64 f fun b f=>uI .i64 f fun b f=>uB f fun b f=>uL 1 f fun b f=>uL 1 f fun b f=>uL 1 f fun b f=>unNil f (K [.agg [.sl 1 a,.sl 1 c,.sl 1 d,.bool e]])))))else none)else none)
abbrev g11 {R:Type} (G:ORC R) (k:Nat):LV→(LV→OV R)→OV R:=gF J13 (f11 G k)
theorem s11{R:Type}{G:ORC R}{k:Nat}(hG:Sound Tryz.prog TAB G):TL 11 (g11 G k):=
 gG J13 (by kernel_rfl) (callF_sound (L:=L11 G k) (f:=11) TAB_chk MO hG Tryz.func11 (sg:=S11) (by kernel_rfl) (by kernel_rfl) (las [0] (by kernel_rfl) ⟨loopIs J12 k (fun K X=>b11_0 G k X (koX J11 P11_0x K)) P11_0h P11_0x default (by kernel_rfl) (by kernel_rfl) (by kernel_rfl) (fun K X=>by kernel_rfl) (fun S K=>by kernel_rfl),trivial⟩))
def P25_0h:Pat:={tmps:=unds [pL,pL,pU,pU,pU,pI] 20 [],boxes:=nons [] 26 []}
def P25_0x:Pat:={tmps:=unds [] 26 [],boxes:=nons [] 26 []}
def P25_0r:Pat:={tmps:=unds [pU,pU,pU,pU,.var .bool .pr] 21 [],boxes:=nons [] 26 []}
def b25_0{R:Type}(G:ORC R)(k:Nat)(X:Cu R J38)(Ko:Cu R J3)(Kr:Cu R J37)(a b:LV)(c:Int):OV R:=
 (bif(decide (c<(a.length:Int)))then(bif((decide (0≤c))&&(decide (c<(a.length:Int))))then(nthK a (Int.toNat c) fun d=>aI .i64 d fun d=>bif((decide (0≤c))&&(decide (c<(b.length:Int))))then(nthK b (Int.toNat c) fun e=>aI .i64 e fun e=>bif(d !=e)then(Kr false)else(X a b (IntKind.i64.wrap (c+1))))else none)else none)else(Ko ()))
def l25_0g{R:Type}(G:ORC R)(k:Nat)(Ko:Cu R J3)(Kr:Cu R J37)(j:Nat):Cu R J38:=lup J38 (fun X=>b25_0 G k X Ko Kr) j
def l25_0{R:Type}(G:ORC R)(k:Nat)(a b:LV)(c:Int)(Ko:Cu R J3)(Kr:Cu R J37):OV R:=l25_0g G k Ko Kr k a b c
def L25{R:Type}(G:ORC R)(k:Nat):Nat→St→(Ex→St→OV R)→OV R
 |0,S,K=>P25_0h.mat S fun vs=>uc J38 (l25_0g G k (koX J3 P25_0x K) (koR J37 P25_0r K) k) vs none
 |_,_,_=>none
def f25{R:Type}(G:ORC R)(k:Nat)(a b:LV)(K:LV→OV R):OV R:=
 (bif((a.length:Int) !=(b.length:Int))then(K [.bool false])else(l25_0 G k a b 0 (fun(_:Unit)=>K [.bool true]) (fun a=>K [.bool a])))
abbrev g25 {R:Type} (G:ORC R) (k:Nat):LV→(LV→OV R)→OV R:=gF J14 (f25 G k)
theorem s25{R:Type}{G:ORC R}{k:Nat}(hG:Sound Tryz.prog TAB G):TL 25 (g25 G k):=
 gG J14 (by kernel_rfl) (callF_sound (L:=L25 G k) (f:=25) TAB_chk MO hG Tryz.func25 (sg:=S25) (by kernel_rfl) (by kernel_rfl) (las [0] (by kernel_rfl) ⟨loopIs J38 k (fun K X=>b25_0 G k X (koX J3 P25_0x K) (koR J37 P25_0r K)) P25_0h P25_0x P25_0r (by kernel_rfl) (by kernel_rfl) (by kernel_rfl) (fun K X=>by kernel_rfl) (fun S K=>by kernel_rfl),trivial⟩))
def P32_0h:Pat:={tmps:=unds [pL,pL,pU,pU,pU,pI] 20 [],boxes:=nons [] 26 []}
def P32_0x:Pat:={tmps:=unds [] 26 [],boxes:=nons [] 26 []}
def P32_0r:Pat:={tmps:=unds [pU,pU,pU,pU,.var .bool .pr] 21 [],boxes:=nons [] 26 []}
def b32_0{R:Type}(G:ORC R)(k:Nat)(X:Cu R J38)(Ko:Cu R J3)(Kr:Cu R J37)(a b:LV)(c:Int):OV R:=
 (bif(decide (c<(a.length:Int)))then(bif((decide (0≤c))&&(decide (c<(a.length:Int))))then(nthK a (Int.toNat c) fun d=>V.asStr d fun d=>bif((decide (0≤c))&&(decide (c<(b.length:Int))))then(nthK b (Int.toNat c) fun e=>V.asStr e fun e=>bif(!(ByteArray.toList d==ByteArray.toList e))then(Kr false)else(X a b (IntKind.i64.wrap (c+1))))else none)else none)else(Ko ()))
def l32_0g{R:Type}(G:ORC R)(k:Nat)(Ko:Cu R J3)(Kr:Cu R J37)(j:Nat):Cu R J38:=lup J38 (fun X=>b32_0 G k X Ko Kr) j
def l32_0{R:Type}(G:ORC R)(k:Nat)(a b:LV)(c:Int)(Ko:Cu R J3)(Kr:Cu R J37):OV R:=l32_0g G k Ko Kr k a b c
def L32{R:Type}(G:ORC R)(k:Nat):Nat→St→(Ex→St→OV R)→OV R
 |0,S,K=>P32_0h.mat S fun vs=>uc J38 (l32_0g G k (koX J3 P32_0x K) (koR J37 P32_0r K) k) vs none
 |_,_,_=>none
def f32{R:Type}(G:ORC R)(k:Nat)(a b:LV)(K:LV→OV R):OV R:=
 (bif((a.length:Int) !=(b.length:Int))then(K [.bool false])else(l32_0 G k a b 0 (fun(_:Unit)=>K [.bool true]) (fun a=>K [.bool a])))
abbrev g32 {R:Type} (G:ORC R) (k:Nat):LV→(LV→OV R)→OV R:=gF J14 (f32 G k)
theorem s32{R:Type}{G:ORC R}{k:Nat}(hG:Sound Tryz.prog TAB G):TL 32 (g32 G k):=
 gG J14 (by kernel_rfl) (callF_sound (L:=L32 G k) (f:=32) TAB_chk MO hG Tryz.func32 (sg:=S32) (by kernel_rfl) (by kernel_rfl) (las [0] (by kernel_rfl) ⟨loopIs J38 k (fun K X=>b32_0 G k X (koX J3 P32_0x K) (koR J37 P32_0r K)) P32_0h P32_0x P32_0r (by kernel_rfl) (by kernel_rfl) (by kernel_rfl) (fun K X=>by kernel_rfl) (fun S K=>by kernel_rfl),trivial⟩))
def f13{R:Type}(G:ORC R)(k:Nat)(a b:LV)(K:LV→OV R):OV R:=
 (G 32 [.sl 1 a,.sl 1 b] fun a=>uB a fun a b=>unNil b (K [.bool a]))
abbrev g13 {R:Type} (G:ORC R) (k:Nat):LV→(LV→OV R)→OV R:=gF J14 (f13 G k)
theorem s13{R:Type}{G:ORC R}{k:Nat}(hG:Sound Tryz.prog TAB G):TL 13 (g13 G k):=
 gG J14 (by kernel_rfl) (callF_sound (L:=fun _ _ _=>none) (f:=13) TAB_chk MO hG Tryz.func13 (sg:=S13) (by kernel_rfl) (by kernel_rfl) (las [] (by kernel_rfl) trivial))
def f8{R:Type}(G:ORC R)(k:Nat)(a b c:LV)(d:Bool)(e f g:LV)(h:Bool)(K:LV→OV R):OV R:=
 (G 25 [.sl 1 a,.sl 1 e] fun a=>uB a fun a e=>unNil e (bif a then(G 25 [.sl 1 b,.sl 1 f] fun a=>uB a fun a b=>unNil b (bif a then(G 13 [.sl 1 c,.sl 1 g] fun a=>uB a fun a b=>unNil b (bif a then(K [.bool (d==h)])else(K [.bool false])))else(K [.bool false])))else(K [.bool false])))
abbrev g8 {R:Type} (G:ORC R) (k:Nat):LV→(LV→OV R)→OV R:=gF J7 (f8 G k)
theorem s8{R:Type}{G:ORC R}{k:Nat}(hG:Sound Tryz.prog TAB G):TL 8 (g8 G k):=
 gG J7 (by kernel_rfl) (callF_sound (L:=fun _ _ _=>none) (f:=8) TAB_chk MO hG Tryz.func8 (sg:=S8) (by kernel_rfl) (by kernel_rfl) (las [] (by kernel_rfl) trivial))
def f34{R:Type}(G:ORC R)(k:Nat)(a b c:Int)(c:ByteArray)(c:Int)(K:LV→OV R):OV R:=
 (bif(a==20)then(K [.bool (b==c),.int .i64 c])else(K [.bool false,.int .i64 c]))
abbrev g34 {R:Type} (G:ORC R) (k:Nat):LV→(LV→OV R)→OV R:=gF J56 (f34 G k)
theorem s34{R:Type}{G:ORC R}{k:Nat}(hG:Sound Tryz.prog TAB G):TL 34 (g34 G k):=
 gG J56 (by kernel_rfl) (callF_sound (L:=fun _ _ _=>none) (f:=34) TAB_chk MO hG Tryz.func34 (sg:=S34) (by kernel_rfl) (by kernel_rfl) (las [] (by kernel_rfl) trivial))
def P65569_2h:Pat:={tmps:=unds [pU,pU,.stat (.one (.fn 34 [.ptr 0 0]) .pt),pS 4,pU,pU,pU,.var (.sl 1) (.own true),pU,pU,pU,pU,pL,pI,pI] 7 (unds [.var .any .ro,pI,pI] 21 []),boxes:=nons [some [.var (.int .i64) .pr false],none,none,none,some B0] 42 []}
def P65569_2x:Pat:={tmps:=unds [pU,pU,.stat (.one (.fn 34 [.ptr 0 0]) .pt),pS 4,pU,pU,pU,.var (.sl 1) (.own true),pU,pU,pU,pU,pL,pI,pI] 31 [],boxes:=nons [some [.var (.int .i64) .pr false],none,none,none,some B0] 42 []}
def P65569_0h:Pat:={tmps:=unds [pU,pU,.stat (.one (.fn 34 [.ptr 0 0]) .pt),pS 4,pU,pU,pU,.var (.sl 1) (.own true),pU,pU,pU,pU,pL,pI,pI] 31 [],boxes:=nons [some [.var (.int .i64) .pr false],none,none,none,some B0] 42 []}
def P65569_0x:Pat:={tmps:=unds [] 7 (unds [.var (.sl 1) (.own true)] 38 []),boxes:=nons [some [.var (.int .i64) .pr false]] 46 []}
def b65569_2{R:Type}(G:ORC R)(k:Nat)(X:Cu R J140)(Ko:Cu R J139)(a b:LV)(c d:Int)(e:V)(f g h:Int)(i:ByteArray)(l m:Int)(n o p q r s:LV):OV R:=
 (bif(decide (g<f))then(V.asSl e fun t u=>bif(((t==4)&&(decide (0≤g)))&&(decide (g<(u.length:Int))))then(nthK u (Int.toNat g) fun t=>V.asAgg t fun t=>ce4 t fun t u v w=>aI .i64 t fun t=>aI .i64 u fun u=>aI .i64 v fun v=>V.asStr w fun w=>G 34 [.agg [.int .i64 t,.int .i64 u,.int .i64 v,.str w],.int .i64 h] fun t=>uB t fun t u=>uI .i64 u fun u v=>unNil v (bif t then(G 58 [.sl 1 a,.str w] fun t=>uB t fun t v=>unNil v (bif(!t)then(bif(decide (List.length a+1≤1073741824))then(X (a++[.str w]) b c d e f (IntKind.i64.wrap (g+1)) u i l m n o p q r s)else none)else(X a b c d e f (IntKind.i64.wrap (g+1)) u i l m n o p q r s)))else(X a b c d e f (IntKind.i64.wrap (g+1)) u i l m n o p q r s)))else none)else(Ko a b c d h i l m n o p q r s))
def l65569_2g{R:Type}(G:ORC R)(k:Nat)(Ko:Cu R J139)(j:Nat):Cu R J140:=lup J140 (fun X=>b65569_2 G k X Ko) j
def l65569_2{R:Type}(G:ORC R)(k:Nat)(a b:LV)(c d:Int)(e:V)(f g h:Int)(i:ByteArray)(l m:Int)(n o p q r s:LV)(Ko:Cu R J139):OV R:=l65569_2g G k Ko k a b c d e f g h i l m n o p q r s
def b65569_0{R:Type}(G:ORC R)(k:Nat)(X:Cu R J139)(Ko:Cu R J116)(a b:LV)(c d e:Int)(f:ByteArray)(g h:Int)(i l m n o p:LV):OV R:=
 (bif(decide (d<c))then(bif((decide (0≤d))&&(decide (d<(b.length:Int))))then(nthK b (Int.toNat d) fun q=>aI .i64 q fun q=>bif((decide (0≤q))&&(decide (q<(p.length:Int))))then(nthK p (Int.toNat q) fun q=>V.asSl q fun q r=>l65569_2 G k a b c d (.sl q r) (r.length:Int) 0 e f g h i l m n o p (fun b c d f g h i l m n o p q r=>X b c d (IntKind.i64.wrap (f+1)) g h i l m n o p q r))else none)else none)else(Ko a e))
def l65569_0g{R:Type}(G:ORC R)(k:Nat)(Ko:Cu R J116)(j:Nat):Cu R J139:=lup J139 (fun X=>b65569_0 G k X Ko) j
def l65569_0{R:Type}(G:ORC R)(k:Nat)(a b:LV)(c d e:Int)(f:ByteArray)(g h:Int)(i l m n o p:LV)(Ko:Cu R J116):OV R:=l65569_0g G k Ko k a b c d e f g h i l m n o p
def L65569{R:Type}(G:ORC R)(k:Nat):Nat→St→(Ex→St→OV R)→OV R
 |2,S,K=>P65569_2h.mat S fun vs=>uc J140 (l65569_2g G k (koX J139 P65569_2x K) k) vs none
 |0,S,K=>P65569_0h.mat S fun vs=>uc J139 (l65569_0g G k (koX J116 P65569_0x K) k) vs none
 |_,_,_=>none
def f65569{R:Type}(G:ORC R)(k:Nat)(a:ByteArray)(b c:Int)(d e f g h i l:LV)(m:Int)(K:LV→OV R):OV R:=
 (l65569_0 G k [] l (l.length:Int) 0 m a b c d e f g h i (fun a b=>K [.sl 1 a,.int .i64 b]))
abbrev g65569 {R:Type} (G:ORC R) (k:Nat):LV→(LV→OV R)→OV R:=gF J22 (f65569 G k)
theorem s65569{R:Type}{G:ORC R}{k:Nat}(hG:Sound Tryz.prog TAB G):TL 65569 (g65569 G k):=
 gG J22 (by kernel_rfl) (callF_sound (L:=L65569 G k) (f:=65569) TAB_chk MO hG Tryz.func33 (sg:=S65569) (by kernel_rfl) (by kernel_rfl) (las [0,2] (by kernel_rfl) ⟨loopIs J139 k (fun K X=>b65569_0 G k X (koX J116 P65569_0x K)) P65569_0h P65569_0x default (by kernel_rfl) (by kernel_rfl) (by kernel_rfl) (fun K X=>by kernel_rfl) (fun S K=>by kernel_rfl),loopIs J140 k (fun K X=>b65569_2 G k X (koX J139 P65569_2x K)) P65569_2h P65569_2x default (by kernel_rfl) (by kernel_rfl) (by kernel_rfl) (fun K X=>by kernel_rfl) (fun S K=>by kernel_rfl),trivial⟩))
def P14_0h:Pat:={tmps:=unds [pU,pU,pS 2,pS 3,pU,.var (.sl 1) (.own true)] 6 (unds [pI,pI] 11 []),boxes:=nons [none,none,some B0,some [.var (.int .i64) .pr false]] 21 []}
def P14_0x:Pat:={tmps:=unds [pU,pU,pS 2,pS 3,pU,.var (.sl 1) (.own true)] 19 [],boxes:=nons [none,none,some B0,some [.var (.int .i64) .pr false]] 21 []}
def b14_0{R:Type}(G:ORC R)(k:Nat)(X:Cu R J16)(Ko:Cu R J15)(a:LV)(b c:Int)(d:ByteArray)(e f:Int)(g h i l m n:LV)(o:Int):OV R:=
 (bif(decide (c<b))then(bif((decide (0≤c))&&(decide (c<(a.length:Int))))then(nthK a (Int.toNat c) fun p=>X (List.set a (Int.toNat c) (.int .i64 c)) b (IntKind.i64.wrap (c+1)) d e f g h i l m n o)else none)else(Ko a d e f g h i l m n o))
def l14_0g{R:Type}(G:ORC R)(k:Nat)(Ko:Cu R J15)(j:Nat):Cu R J16:=lup J16 (fun X=>b14_0 G k X Ko) j
def l14_0{R:Type}(G:ORC R)(k:Nat)(a:LV)(b c:Int)(d:ByteArray)(e f:Int)(g h i l m n:LV)(o:Int)(Ko:Cu R J15):OV R:=l14_0g G k Ko k a b c d e f g h i l m n o
def L14{R:Type}(G:ORC R)(k:Nat):Nat→St→(Ex→St→OV R)→OV R
 |0,S,K=>P14_0h.mat S fun vs=>uc J16 (l14_0g G k (koX J15 P14_0x K) k) vs none
 |_,_,_=>none
def f14{R:Type}(G:ORC R)(k:Nat)(a:ByteArray)(b c:Int)(d e f g h i:LV)(l:Int)(K:LV→OV R):OV R:=
 (bif(((decide (0≤(i.length:Int)))&&(decide ((i.length:Int)≤(i.length:Int))))&&(decide ((i.length:Int)≤1073741824)))then(l14_0 G k (List.replicate (Int.toNat (i.length:Int)) (V.int .i64 0)) ((List.length (List.replicate (Int.toNat (i.length:Int)) (V.int .i64 0)):Nat):Int) 0 a b c d e f g h i l (fun a b c d e f g h i l m=>G 65569 [.agg [.str b,.int .i64 c,.int .i64 d,.sl 1 e,.sl 1 f,.sl 1 g,.sl 7 h,.sl 6 i,.sl 1 l],.sl 1 a,.int .i64 m] fun a=>uL 1 a fun a b=>uI .i64 b fun b c=>unNil c (K [.sl 1 a])))else none)
abbrev g14 {R:Type} (G:ORC R) (k:Nat):LV→(LV→OV R)→OV R:=gF J17 (f14 G k)
theorem s14{R:Type}{G:ORC R}{k:Nat}(hG:Sound Tryz.prog TAB G):TL 14 (g14 G k):=
 gG J17 (by kernel_rfl) (callF_sound (L:=L14 G k) (f:=14) TAB_chk MO hG Tryz.func14 (sg:=S14) (by kernel_rfl) (by kernel_rfl) (las [0] (by kernel_rfl) ⟨loopIs J16 k (fun K X=>b14_0 G k X (koX J15 P14_0x K)) P14_0h P14_0x default (by kernel_rfl) (by kernel_rfl) (by kernel_rfl) (fun K X=>by kernel_rfl) (fun S K=>by kernel_rfl),trivial⟩))
def P15_0h:Pat:={tmps:=unds [pU,pI,pS 2,pU,pU,.var (.sl 1) (.own true),pI] 15 [],boxes:=nons [none,none,some B0] 19 []}
def P15_0x:Pat:={tmps:=unds [pU,pI,pS 2,pU,pU,.var (.sl 1) (.own true)] 16 [],boxes:=nons [none,none,some B0] 19 []}
def b15_0{R:Type}(G:ORC R)(k:Nat)(X:Cu R J19)(Ko:Cu R J18)(a:Int)(b:LV)(c:Int)(d:ByteArray)(e f:Int)(g h i l m n:LV):OV R:=
 (bif(decide (c<(n.length:Int)))then(bif(decide (List.length b+1≤1073741824))then(X a (b++[(.int .i64 c)]) (IntKind.i64.wrap (c+1)) d e f g h i l m n)else none)else(Ko a b d e f g h i l m n))
def l15_0g{R:Type}(G:ORC R)(k:Nat)(Ko:Cu R J18)(j:Nat):Cu R J19:=lup J19 (fun X=>b15_0 G k X Ko) j
def l15_0{R:Type}(G:ORC R)(k:Nat)(a:Int)(b:LV)(c:Int)(d:ByteArray)(e f:Int)(g h i l m n:LV)(Ko:Cu R J18):OV R:=l15_0g G k Ko k a b c d e f g h i l m n
def L15{R:Type}(G:ORC R)(k:Nat):Nat→St→(Ex→St→OV R)→OV R
 |0,S,K=>P15_0h.mat S fun vs=>uc J19 (l15_0g G k (koX J18 P15_0x K) k) vs none
 |_,_,_=>none
def f15{R:Type}(G:ORC R)(k:Nat)(a:ByteArray)(b c:Int)(d e f g h i:LV)(l:Int)(K:LV→OV R):OV R:=
 (l15_0 G k l [] 0 a b c d e f g h i (fun a b c d e f g h i l m=>G 35 [.agg [.str c,.int .i64 d,.int .i64 e,.sl 1 f,.sl 1 g,.sl 1 h,.sl 7 i,.sl 6 l,.sl 1 m],.sl 1 b,.int .i64 20,.int .i64 a] fun a=>uL 1 a fun a b=>unNil b (K [.sl 1 a])))
abbrev g15 {R:Type} (G:ORC R) (k:Nat):LV→(LV→OV R)→OV R:=gF J17 (f15 G k)
theorem s15{R:Type}{G:ORC R}{k:Nat}(hG:Sound Tryz.prog TAB G):TL 15 (g15 G k):=
 gG J17 (by kernel_rfl) (callF_sound (L:=L15 G k) (f:=15) TAB_chk MO hG Tryz.func15 (sg:=S15) (by kernel_rfl) (by kernel_rfl) (las [0] (by kernel_rfl) ⟨loopIs J19 k (fun K X=>b15_0 G k X (koX J18 P15_0x K)) P15_0h P15_0x default (by kernel_rfl) (by kernel_rfl) (by kernel_rfl) (fun K X=>by kernel_rfl) (fun S K=>by kernel_rfl),trivial⟩))
def P67_0h:Pat:={tmps:=unds [.var (.sl 7) .ro,.var .str .pr,pU,pU,pU,pI] 14 [],boxes:=nons [] 20 []}
def P67_0x:Pat:={tmps:=unds [] 20 [],boxes:=nons [] 20 []}
def P67_0r:Pat:={tmps:=unds [pU,pU,pU,pU,pI] 15 [],boxes:=nons [] 20 []}
def b67_0{R:Type}(G:ORC R)(k:Nat)(X:Cu R J103)(Ko:Cu R J3)(Kr:Cu R J5)(a:LV)(b:ByteArray)(c:Int):OV R:=
 (bif(decide (c<(a.length:Int)))then(bif((decide (0≤c))&&(decide (c<(a.length:Int))))then(nthK a (Int.toNat c) fun d=>ca7 d fun d e f g d e f=>V.asStr f fun d=>bif(ByteArray.toList d==ByteArray.toList b)then(Kr c)else(X a b (IntKind.i64.wrap (c+1))))else none)else(Ko ()))
def l67_0g{R:Type}(G:ORC R)(k:Nat)(Ko:Cu R J3)(Kr:Cu R J5)(j:Nat):Cu R J103:=lup J103 (fun X=>b67_0 G k X Ko Kr) j
def l67_0{R:Type}(G:ORC R)(k:Nat)(a:LV)(b:ByteArray)(c:Int)(Ko:Cu R J3)(Kr:Cu R J5):OV R:=l67_0g G k Ko Kr k a b c
def L67{R:Type}(G:ORC R)(k:Nat):Nat→St→(Ex→St→OV R)→OV R
 |0,S,K=>P67_0h.mat S fun vs=>uc J103 (l67_0g G k (koX J3 P67_0x K) (koR J5 P67_0r K) k) vs none
 |_,_,_=>none
def f67{R:Type}(G:ORC R)(k:Nat)(a:LV)(b:ByteArray)(K:LV→OV R):OV R:=
 (l67_0 G k a b 1 (fun(_:Unit)=>K [.int .i64 (-1)]) (fun a=>K [.int .i64 a]))
abbrev g67 {R:Type} (G:ORC R) (k:Nat):LV→(LV→OV R)→OV R:=gF J104 (f67 G k)
theorem s67{R:Type}{G:ORC R}{k:Nat}(hG:Sound Tryz.prog TAB G):TL 67 (g67 G k):=
 gG J104 (by kernel_rfl) (callF_sound (L:=L67 G k) (f:=67) TAB_chk MO hG Tryz.func67 (sg:=S67) (by kernel_rfl) (by kernel_rfl) (las [0] (by kernel_rfl) ⟨loopIs J103 k (fun K X=>b67_0 G k X (koX J3 P67_0x K) (koR J5 P67_0r K)) P67_0h P67_0x P67_0r (by kernel_rfl) (by kernel_rfl) (by kernel_rfl) (fun K X=>by kernel_rfl) (fun S K=>by kernel_rfl),trivial⟩))
def P102_0h:Pat:={tmps:=unds [pL,.var .str .pr,pU,pU,pU,pI] 13 [],boxes:=nons [] 19 []}
def P102_0x:Pat:={tmps:=unds [] 19 [],boxes:=nons [] 19 []}
def P102_0r:Pat:={tmps:=unds [pU,pU,pU,pU,pI] 14 [],boxes:=nons [] 19 []}
def b102_0{R:Type}(G:ORC R)(k:Nat)(X:Cu R J50)(Ko:Cu R J3)(Kr:Cu R J5)(a:LV)(b:ByteArray)(c:Int):OV R:=
 (bif(decide (c<(a.length:Int)))then(bif((decide (0≤c))&&(decide (c<(a.length:Int))))then(nthK a (Int.toNat c) fun d=>V.asStr d fun d=>bif(ByteArray.toList d==ByteArray.toList b)then(Kr c)else(X a b (IntKind.i64.wrap (c+1))))else none)else(Ko ()))
def l102_0g{R:Type}(G:ORC R)(k:Nat)(Ko:Cu R J3)(Kr:Cu R J5)(j:Nat):Cu R J50:=lup J50 (fun X=>b102_0 G k X Ko Kr) j
def l102_0{R:Type}(G:ORC R)(k:Nat)(a:LV)(b:ByteArray)(c:Int)(Ko:Cu R J3)(Kr:Cu R J5):OV R:=l102_0g G k Ko Kr k a b c
def L102{R:Type}(G:ORC R)(k:Nat):Nat→St→(Ex→St→OV R)→OV R
 |0,S,K=>P102_0h.mat S fun vs=>uc J50 (l102_0g G k (koX J3 P102_0x K) (koR J5 P102_0r K) k) vs none
 |_,_,_=>none
def f102{R:Type}(G:ORC R)(k:Nat)(a:LV)(b:ByteArray)(K:LV→OV R):OV R:=
 (l102_0 G k a b 0 (fun(_:Unit)=>K [.int .i64 (-1)]) (fun a=>K [.int .i64 a]))
abbrev g102 {R:Type} (G:ORC R) (k:Nat):LV→(LV→OV R)→OV R:=gF J51 (f102 G k)
theorem s102{R:Type}{G:ORC R}{k:Nat}(hG:Sound Tryz.prog TAB G):TL 102 (g102 G k):=
 gG J51 (by kernel_rfl) (callF_sound (L:=L102 G k) (f:=102) TAB_chk MO hG Tryz.func102 (sg:=S102) (by kernel_rfl) (by kernel_rfl) (las [0] (by kernel_rfl) ⟨loopIs J50 k (fun K X=>b102_0 G k X (koX J3 P102_0x K) (koR J5 P102_0r K)) P102_0h P102_0x P102_0r (by kernel_rfl) (by kernel_rfl) (by kernel_rfl) (fun K X=>by kernel_rfl) (fun S K=>by kernel_rfl),trivial⟩))
def f103{R:Type}(G:ORC R)(k:Nat)(a:Int)(K:LV→OV R):OV R:=
 (bif(a==5)then(K [.int .i64 5])else(bif(a==6)then(K [.int .i64 6])else(K [.int .i64 (IntKind.i64.wrap ((IntKind.i64.wrap (7+a))-7))])))
abbrev g103 {R:Type} (G:ORC R) (k:Nat):LV→(LV→OV R)→OV R:=gF J5 (f103 G k)
theorem s103{R:Type}{G:ORC R}{k:Nat}(hG:Sound Tryz.prog TAB G):TL 103 (g103 G k):=
 gG J5 (by kernel_rfl) (callF_sound (L:=fun _ _ _=>none) (f:=103) TAB_chk MO hG Tryz.func103 (sg:=S103) (by kernel_rfl) (by kernel_rfl) (las [] (by kernel_rfl) trivial))
def f92{R:Type}(G:ORC R)(k:Nat)(a:LV)(b c:Int)(d:ByteArray)(e:LV)(f:Int)(g h i l:LV)(K:LV→OV R):OV R:=
 (bif(b==1)then(bif(decide (List.length a+1≤1073741824))then(K [.sl 4 (a++[.agg [.int .i64 1,.int .i64 0,.int .i64 c,.str ⟨#[]⟩]])])else none)else(bif(b==2)then(G 102 [.sl 1 g,.str d] fun m=>uI .i64 m fun m n=>unNil n (bif(decide (List.length a+1≤1073741824))then(K [.sl 4 (a++[.agg [.int .i64 2,.int .i64 m,.int .i64 0,.str ⟨#[]⟩]])])else none))else(bif(b==3)then(bif(decide (List.length a+1≤1073741824))then(K [.sl 4 (a++[.agg [.int .i64 3,.int .i64 0,.int .i64 0,.str ⟨#[]⟩]])])else none)else(bif(b==4)then(G 67 [.sl 7 l,.str d] fun m=>uI .i64 m fun m n=>unNil n (bif(decide (List.length a+1≤1073741824))then(K [.sl 4 (a++[.agg [.int .i64 4,.int .i64 m,.int .i64 0,.str ⟨#[]⟩]])])else none))else(bif(b==5)then(bif(b==5)then(bif(decide (0<(e.length:Int)))then(nthK e 0 fun m=>V.asAgg m fun m=>G 92 [.sl 4 a,.agg m,.agg [.sl 1 g,.sl 1 h,.sl 1 i,.sl 7 l]] fun m=>uL 4 m fun m n=>unNil n (G 103 [.int .i64 b] fun n=>uI .i64 n fun n o=>unNil o (bif(decide (List.length m+1≤1073741824))then(K [.sl 4 (m++[.agg [.int .i64 n,.int .i64 0,.int .i64 0,.str ⟨#[]⟩]])])else none)))else none)else(bif(b==18)then(G 104 [.sl 4 a,.agg [.int .i64 b,.int .i64 c,.str d,.sl 5 e,.int .i64 f],.agg [.sl 1 g,.sl 1 h,.sl 1 i,.sl 7 l]] fun m=>uL 4 m fun m n=>unNil n (K [.sl 4 m]))else(bif(b==19)then(G 105 [.sl 4 a,.agg [.int .i64 b,.int .i64 c,.str d,.sl 5 e,.int .i64 f],.agg [.sl 1 g,.sl 1 h,.sl 1 i,.sl 7 l]] fun m=>uL 4 m fun m n=>unNil n (K [.sl 4 m]))else(bif(decide (0<(e.length:Int)))then(nthK e 0 fun m=>V.asAgg m fun m=>G 92 [.sl 4 a,.agg m,.agg [.sl 1 g,.sl 1 h,.sl 1 i,.sl 7 l]] fun m=>uL 4 m fun m n=>unNil n (bif(decide (1<(e.length:Int)))then(nthK e 1 fun n=>V.asAgg n fun n=>G 92 [.sl 4 m,.agg n,.agg [.sl 1 g,.sl 1 h,.sl 1 i,.sl 7 l]] fun m=>uL 4 m fun m n=>unNil n (G 103 [.int .i64 b] fun n=>uI .i64 n fun n o=>unNil o (bif(decide (List.length m+1≤1073741824))then(K [.sl 4 (m++[.agg [.int .i64 n,.int .i64 0,.int .i64 0,.str ⟨#[]⟩]])])else none)))else none))else none))))else(bif(b==6)then(bif(decide (0<(e.length:Int)))then(nthK e 0 fun m=>V.asAgg m fun m=>G 92 [.sl 4 a,.agg m,.agg [.sl 1 g,.sl 1 h,.sl 1 i,.sl 7 l]] fun m=>uL 4 m fun m n=>unNil n (G 103 [.int .i64 b] fun n=>uI .i64 n fun n o=>unNil o (bif(decide (List.length m+1≤1073741824))then(K [.sl 4 (m++[.agg [.int .i64 n,.int .i64 0,.int .i64 0,.str ⟨#[]⟩]])])else none)))else none)else(bif(b==18)then(G 104 [.sl 4 a,.agg [.int .i64 b,.int .i64 c,.str d,.sl 5 e,.int .i64 f],.agg [.sl 1 g,.sl 1 h,.sl 1 i,.sl 7 l]] fun m=>uL 4 m fun m n=>unNil n (K [.sl 4 m]))else(bif(b==19)then(G 105 [.sl 4 a,.agg [.int .i64 b,.int .i64 c,.str d,.sl 5 e,.int .i64 f],.agg [.sl 1 g,.sl 1 h,.sl 1 i,.sl 7 l]] fun c=>uL 4 c fun c d=>unNil d (K [.sl 4 c]))else(bif(decide (0<(e.length:Int)))then(nthK e 0 fun c=>V.asAgg c fun c=>G 92 [.sl 4 a,.agg c,.agg [.sl 1 g,.sl 1 h,.sl 1 i,.sl 7 l]] fun a=>uL 4 a fun a c=>unNil c (bif(decide (1<(e.length:Int)))then(nthK e 1 fun c=>V.asAgg c fun c=>G 92 [.sl 4 a,.agg c,.agg [.sl 1 g,.sl 1 h,.sl 1 i,.sl 7 l]] fun a=>uL 4 a fun a c=>unNil c (G 103 [.int .i64 b] fun b=>uI .i64 b fun b c=>unNil c (bif(decide (List.length a+1≤1073741824))then(K [.sl 4 (a++[.agg [.int .i64 b,.int .i64 0,.int .i64 0,.str ⟨#[]⟩]])])else none)))else none))else none)))))))))
abbrev g92 {R:Type} (G:ORC R) (k:Nat):LV→(LV→OV R)→OV R:=gF J127 (f92 G k)
theorem s92{R:Type}{G:ORC R}{k:Nat}(hG:Sound Tryz.prog TAB G):TL 92 (g92 G k):=
 gG J127 (by kernel_rfl) (callF_sound (L:=fun _ _ _=>none) (f:=92) TAB_chk MO hG Tryz.func92 (sg:=S92) (by kernel_rfl) (by kernel_rfl) (las [] (by kernel_rfl) trivial))
def f104{R:Type}(G:ORC R)(k:Nat)(a:LV)(b c:Int)(b:ByteArray)(b:LV)(c:Int)(c d e f:LV)(K:LV→OV R):OV R:=
 (bif(decide (0<(b.length:Int)))then(nthK b 0 fun g=>V.asAgg g fun g=>G 92 [.sl 4 a,.agg g,.agg [.sl 1 c,.sl 1 d,.sl 1 e,.sl 7 f]] fun a=>uL 4 a fun a g=>unNil g (bif(decide (List.length a+1≤1073741824))then(bif(decide (1<(b.length:Int)))then(nthK b 1 fun b=>V.asAgg b fun b=>G 92 [.sl 4 (a++[.agg [.int .i64 24,.int .i64 0,.int .i64 0,.str ⟨#[]⟩]]),.agg b,.agg [.sl 1 c,.sl 1 d,.sl 1 e,.sl 7 f]] fun b=>uL 4 b fun b c=>unNil c (bif(decide (List.length b+3≤1073741824))then(bif((decide (0≤(a.length:Int)))&&(decide ((a.length:Int)<((List.length (b++[.agg [.int .i64 24,.int .i64 0,.int .i64 0,.str ⟨#[]⟩],.agg [.int .i64 1,.int .i64 0,.int .i64 1,.str ⟨#[]⟩],.agg [.int .i64 23,.int .i64 0,.int .i64 0,.str ⟨#[]⟩]]):Nat):Int))))then(nthK (b++[.agg [.int .i64 24,.int .i64 0,.int .i64 0,.str ⟨#[]⟩],.agg [.int .i64 1,.int .i64 0,.int .i64 1,.str ⟨#[]⟩],.agg [.int .i64 23,.int .i64 0,.int .i64 0,.str ⟨#[]⟩]]) (Int.toNat (a.length:Int)) fun c=>ca4 c fun c d e f=>bif((decide (0≤(b.length:Int)))&&(decide ((b.length:Int)<((List.length (List.set (b++[.agg [.int .i64 24,.int .i64 0,.int .i64 0,.str ⟨#[]⟩],.agg [.int .i64 1,.int .i64 0,.int .i64 1,.str ⟨#[]⟩],.agg [.int .i64 23,.int .i64 0,.int .i64 0,.str ⟨#[]⟩]]) (Int.toNat (a.length:Int)) (.agg [c,.int .i64 ((List.length (b++[.agg [.int .i64 24,.int .i64 0,.int .i64 0,.str ⟨#[]⟩],.agg [.int .i64 1,.int .i64 0,.int .i64 1,.str ⟨#[]⟩],.agg [.int .i64 23,.int .i64 0,.int .i64 0,.str ⟨#[]⟩]]):Nat):Int),e,f])):Nat):Int))))then(nthK (List.set (b++[.agg [.int .i64 24,.int .i64 0,.int .i64 0,.str ⟨#[]⟩],.agg [.int .i64 1,.int .i64 0,.int .i64 1,.str ⟨#[]⟩],.agg [.int .i64 23,.int .i64 0,.int .i64 0,.str ⟨#[]⟩]]) (Int.toNat (a.length:Int)) (.agg [c,.int .i64 ((List.length (b++[.agg [.int .i64 24,.int .i64 0,.int .i64 0,.str ⟨#[]⟩],.agg [.int .i64 1,.int .i64 0,.int .i64 1,.str ⟨#[]⟩],.agg [.int .i64 23,.int .i64 0,.int .i64 0,.str ⟨#[]⟩]]):Nat):Int),e,f])) (Int.toNat (b.length:Int)) fun d=>ca4 d fun d g h i=>bif(decide (List.length (List.set (List.set (b++[.agg [.int .i64 24,.int .i64 0,.int .i64 0,.str ⟨#[]⟩],.agg [.int .i64 1,.int .i64 0,.int .i64 1,.str ⟨#[]⟩],.agg [.int .i64 23,.int .i64 0,.int .i64 0,.str ⟨#[]⟩]]) (Int.toNat (a.length:Int)) (.agg [c,.int .i64 ((List.length (b++[.agg [.int .i64 24,.int .i64 0,.int .i64 0,.str ⟨#[]⟩],.agg [.int .i64 1,.int .i64 0,.int .i64 1,.str ⟨#[]⟩],.agg [.int .i64 23,.int .i64 0,.int .i64 0,.str ⟨#[]⟩]]):Nat):Int),e,f])) (Int.toNat (b.length:Int)) (.agg [d,.int .i64 ((List.length (b++[.agg [.int .i64 24,.int .i64 0,.int .i64 0,.str ⟨#[]⟩],.agg [.int .i64 1,.int .i64 0,.int .i64 1,.str ⟨#[]⟩],.agg [.int .i64 23,.int .i64 0,.int .i64 0,.str ⟨#[]⟩]]):Nat):Int),h,i]))+1≤1073741824))then(bif((decide (0≤(IntKind.i64.wrap ((b.length:Int)+2))))&&(decide ((IntKind.i64.wrap ((b.length:Int)+2))<((List.length ((List.set (List.set (b++[.agg [.int .i64 24,.int .i64 0,.int .i64 0,.str ⟨#[]⟩],.agg [.int .i64 1,.int .i64 0,.int .i64 1,.str ⟨#[]⟩],.agg [.int .i64 23,.int .i64 0,.int .i64 0,.str ⟨#[]⟩]]) (Int.toNat (a.length:Int)) (.agg [c,.int .i64 ((List.length (b++[.agg [.int .i64 24,.int .i64 0,.int .i64 0,.str ⟨#[]⟩],.agg [.int .i64 1,.int .i64 0,.int .i64 1,.str ⟨#[]⟩],.agg [.int .i64 23,.int .i64 0,.int .i64 0,.str ⟨#[]⟩]]):Nat):Int),e,f])) (Int.toNat (b.length:Int)) (.agg [d,.int .i64 ((List.length (b++[.agg [.int .i64 24,.int .i64 0,.int .i64 0,.str ⟨#[]⟩],.agg [.int .i64 1,.int .i64 0,.int .i64 1,.str ⟨#[]⟩],.agg [.int .i64 23,.int .i64 0,.int .i64 0,.str ⟨#[]⟩]]):Nat):Int),h,i]))++[.agg [.int .i64 1,.int .i64 0,.int .i64 0,.str ⟨#[]⟩]]):Nat):Int))))then(nthK ((List.set (List.set (b++[.agg [.int .i64 24,.int .i64 0,.int .i64 0,.str ⟨#[]⟩],.agg [.int .i64 1,.int .i64 0,.int .i64 1,.str ⟨#[]⟩],.agg [.int .i64 23,.int .i64 0,.int .i64 0,.str ⟨#[]⟩]]) (Int.toNat (a.length:Int)) (.agg [c,.int .i64 ((List.length (b++[.agg [.int .i64 24,.int .i64 0,.int .i64 0,.str ⟨#[]⟩],.agg [.int .i64 1,.int .i64 0,.int .i64 1,.str ⟨#[]⟩],.agg [.int .i64 23,.int .i64 0,.int .i64 0,.str ⟨#[]⟩]]):Nat):Int),e,f])) (Int.toNat (b.length:Int)) (.agg [d,.int .i64 ((List.length (b++[.agg [.int .i64 24,.int .i64 0,.int .i64 0,.str ⟨#[]⟩],.agg [.int .i64 1,.int .i64 0,.int .i64 1,.str ⟨#[]⟩],.agg [.int .i64 23,.int .i64 0,.int .i64 0,.str ⟨#[]⟩]]):Nat):Int),h,i]))++[.agg [.int .i64 1,.int .i64 0,.int .i64 0,.str ⟨#[]⟩]]) (Int.toNat (IntKind.i64.wrap ((b.length:Int)+2))) fun g=>ca4 g fun g l m n=>K [.sl 4 (List.set ((List.set (List.set (b++[.agg [.int .i64 24,.int .i64 0,.int .i64 0,.str ⟨#[]⟩],.agg [.int .i64 1,.int .i64 0,.int .i64 1,.str ⟨#[]⟩],.agg [.int .i64 23,.int .i64 0,.int .i64 0,.str ⟨#[]⟩]]) (Int.toNat (a.length:Int)) (.agg [c,.int .i64 ((List.length (b++[.agg [.int .i64 24,.int .i64 0,.int .i64 0,.str ⟨#[]⟩],.agg [.int .i64 1,.int .i64 0,.int .i64 1,.str ⟨#[]⟩],.agg [.int .i64 23,.int .i64 0,.int .i64 0,.str ⟨#[]⟩]]):Nat):Int),e,f])) (Int.toNat (b.length:Int)) (.agg [d,.int .i64 ((List.length (b++[.agg [.int .i64 24,.int .i64 0,.int .i64 0,.str ⟨#[]⟩],.agg [.int .i64 1,.int .i64 0,.int .i64 1,.str ⟨#[]⟩],.agg [.int .i64 23,.int .i64 0,.int .i64 0,.str ⟨#[]⟩]]):Nat):Int),h,i]))++[.agg [.int .i64 1,.int .i64 0,.int .i64 0,.str ⟨#[]⟩]]) (Int.toNat (IntKind.i64.wrap ((b.length:Int)+2))) (.agg [g,.int .i64 ((List.length ((List.set (List.set (b++[.agg [.int .i64 24,.int .i64 0,.int .i64 0,.str ⟨#[]⟩],.agg [.int .i64 1,.int .i64 0,.int .i64 1,.str ⟨#[]⟩],.agg [.int .i64 23,.int .i64 0,.int .i64 0,.str ⟨#[]⟩]]) (Int.toNat (a.length:Int)) (.agg [c,.int .i64 ((List.length (b++[.agg [.int .i64 24,.int .i64 0,.int .i64 0,.str ⟨#[]⟩],.agg [.int .i64 1,.int .i64 0,.int .i64 1,.str ⟨#[]⟩],.agg [.int .i64 23,.int .i64 0,.int .i64 0,.str ⟨#[]⟩]]):Nat):Int),e,f])) (Int.toNat (b.length:Int)) (.agg [d,.int .i64 ((List.length (b++[.agg [.int .i64 24,.int .i64 0,.int .i64 0,.str ⟨#[]⟩],.agg [.int .i64 1,.int .i64 0,.int .i64 1,.str ⟨#[]⟩],.agg [.int .i64 23,.int .i64 0,.int .i64 0,.str ⟨#[]⟩]]):Nat):Int),h,i]))++[.agg [.int .i64 1,.int .i64 0,.int .i64 0,.str ⟨#[]⟩]]):Nat):Int),m,n]))])else none)else none)else none)else none)else none))else none)else none))else none)
abbrev g104 {R:Type} (G:ORC R) (k:Nat):LV→(LV→OV R)→OV R:=gF J127 (f104 G k)
theorem s104{R:Type}{G:ORC R}{k:Nat}(hG:Sound Tryz.prog TAB G):TL 104 (g104 G k):=
 gG J127 (by kernel_rfl) (callF_sound (L:=fun _ _ _=>none) (f:=104) TAB_chk MO hG Tryz.func104 (sg:=S104) (by kernel_rfl) (by kernel_rfl) (las [] (by kernel_rfl) trivial))
def f105{R:Type}(G:ORC R)(k:Nat)(a:LV)(b c:Int)(b:ByteArray)(b:LV)(c:Int)(c d e f:LV)(K:LV→OV R):OV R:=
 (bif(decide (0<(b.length:Int)))then(nthK b 0 fun g=>V.asAgg g fun g=>G 92 [.sl 4 a,.agg g,.agg [.sl 1 c,.sl 1 d,.sl 1 e,.sl 7 f]] fun a=>uL 4 a fun a g=>unNil g (bif(decide (List.length a+3≤1073741824))then(bif((decide (0≤(a.length:Int)))&&(decide ((a.length:Int)<((List.length (a++[.agg [.int .i64 24,.int .i64 0,.int .i64 0,.str ⟨#[]⟩],.agg [.int .i64 1,.int .i64 0,.int .i64 1,.str ⟨#[]⟩],.agg [.int .i64 23,.int .i64 0,.int .i64 0,.str ⟨#[]⟩]]):Nat):Int))))then(nthK (a++[.agg [.int .i64 24,.int .i64 0,.int .i64 0,.str ⟨#[]⟩],.agg [.int .i64 1,.int .i64 0,.int .i64 1,.str ⟨#[]⟩],.agg [.int .i64 23,.int .i64 0,.int .i64 0,.str ⟨#[]⟩]]) (Int.toNat (a.length:Int)) fun g=>ca4 g fun g h i l=>bif(decide (1<(b.length:Int)))then(nthK b 1 fun b=>V.asAgg b fun b=>G 92 [.sl 4 (List.set (a++[.agg [.int .i64 24,.int .i64 0,.int .i64 0,.str ⟨#[]⟩],.agg [.int .i64 1,.int .i64 0,.int .i64 1,.str ⟨#[]⟩],.agg [.int .i64 23,.int .i64 0,.int .i64 0,.str ⟨#[]⟩]]) (Int.toNat (a.length:Int)) (.agg [g,.int .i64 ((List.length (a++[.agg [.int .i64 24,.int .i64 0,.int .i64 0,.str ⟨#[]⟩],.agg [.int .i64 1,.int .i64 0,.int .i64 1,.str ⟨#[]⟩],.agg [.int .i64 23,.int .i64 0,.int .i64 0,.str ⟨#[]⟩]]):Nat):Int),i,l])),.agg b,.agg [.sl 1 c,.sl 1 d,.sl 1 e,.sl 7 f]] fun b=>uL 4 b fun b c=>unNil c (bif(decide (List.length b+3≤1073741824))then(bif((decide (0≤(b.length:Int)))&&(decide ((b.length:Int)<((List.length (b++[.agg [.int .i64 24,.int .i64 0,.int .i64 0,.str ⟨#[]⟩],.agg [.int .i64 1,.int .i64 0,.int .i64 1,.str ⟨#[]⟩],.agg [.int .i64 23,.int .i64 0,.int .i64 0,.str ⟨#[]⟩]]):Nat):Int))))then(nthK (b++[.agg [.int .i64 24,.int .i64 0,.int .i64 0,.str ⟨#[]⟩],.agg [.int .i64 1,.int .i64 0,.int .i64 1,.str ⟨#[]⟩],.agg [.int .i64 23,.int .i64 0,.int .i64 0,.str ⟨#[]⟩]]) (Int.toNat (b.length:Int)) fun c=>ca4 c fun c d e f=>bif(decide (List.length (List.set (b++[.agg [.int .i64 24,.int .i64 0,.int .i64 0,.str ⟨#[]⟩],.agg [.int .i64 1,.int .i64 0,.int .i64 1,.str ⟨#[]⟩],.agg [.int .i64 23,.int .i64 0,.int .i64 0,.str ⟨#[]⟩]]) (Int.toNat (b.length:Int)) (.agg [c,.int .i64 ((List.length (b++[.agg [.int .i64 24,.int .i64 0,.int .i64 0,.str ⟨#[]⟩],.agg [.int .i64 1,.int .i64 0,.int .i64 1,.str ⟨#[]⟩],.agg [.int .i64 23,.int .i64 0,.int .i64 0,.str ⟨#[]⟩]]):Nat):Int),e,f]))+1≤1073741824))then(bif((decide (0≤(IntKind.i64.wrap ((a.length:Int)+2))))&&(decide ((IntKind.i64.wrap ((a.length:Int)+2))<((List.length ((List.set (b++[.agg [.int .i64 24,.int .i64 0,.int .i64 0,.str ⟨#[]⟩],.agg [.int .i64 1,.int .i64 0,.int .i64 1,.str ⟨#[]⟩],.agg [.int .i64 23,.int .i64 0,.int .i64 0,.str ⟨#[]⟩]]) (Int.toNat (b.length:Int)) (.agg [c,.int .i64 ((List.length (b++[.agg [.int .i64 24,.int .i64 0,.int .i64 0,.str ⟨#[]⟩],.agg [.int .i64 1,.int .i64 0,.int .i64 1,.str ⟨#[]⟩],.agg [.int .i64 23,.int .i64 0,.int .i64 0,.str ⟨#[]⟩]]):Nat):Int),e,f]))++[.agg [.int .i64 1,.int .i64 0,.int .i64 0,.str ⟨#[]⟩]]):Nat):Int))))then(nthK ((List.set (b++[.agg [.int .i64 24,.int .i64 0,.int .i64 0,.str ⟨#[]⟩],.agg [.int .i64 1,.int .i64 0,.int .i64 1,.str ⟨#[]⟩],.agg [.int .i64 23,.int .i64 0,.int .i64 0,.str ⟨#[]⟩]]) (Int.toNat (b.length:Int)) (.agg [c,.int .i64 ((List.length (b++[.agg [.int .i64 24,.int .i64 0,.int .i64 0,.str ⟨#[]⟩],.agg [.int .i64 1,.int .i64 0,.int .i64 1,.str ⟨#[]⟩],.agg [.int .i64 23,.int .i64 0,.int .i64 0,.str ⟨#[]⟩]]):Nat):Int),e,f]))++[.agg [.int .i64 1,.int .i64 0,.int .i64 0,.str ⟨#[]⟩]]) (Int.toNat (IntKind.i64.wrap ((a.length:Int)+2))) fun d=>ca4 d fun d g h i=>bif((decide (0≤(IntKind.i64.wrap ((b.length:Int)+2))))&&(decide ((IntKind.i64.wrap ((b.length:Int)+2))<((List.length (List.set ((List.set (b++[.agg [.int .i64 24,.int .i64 0,.int .i64 0,.str ⟨#[]⟩],.agg [.int .i64 1,.int .i64 0,.int .i64 1,.str ⟨#[]⟩],.agg [.int .i64 23,.int .i64 0,.int .i64 0,.str ⟨#[]⟩]]) (Int.toNat (b.length:Int)) (.agg [c,.int .i64 ((List.length (b++[.agg [.int .i64 24,.int .i64 0,.int .i64 0,.str ⟨#[]⟩],.agg [.int .i64 1,.int .i64 0,.int .i64 1,.str ⟨#[]⟩],.agg [.int .i64 23,.int .i64 0,.int .i64 0,.str ⟨#[]⟩]]):Nat):Int),e,f]))++[.agg [.int .i64 1,.int .i64 0,.int .i64 0,.str ⟨#[]⟩]]) (Int.toNat (IntKind.i64.wrap ((a.length:Int)+2))) (.agg [d,.int .i64 ((List.length ((List.set (b++[.agg [.int .i64 24,.int .i64 0,.int .i64 0,.str ⟨#[]⟩],.agg [.int .i64 1,.int .i64 0,.int .i64 1,.str ⟨#[]⟩],.agg [.int .i64 23,.int .i64 0,.int .i64 0,.str ⟨#[]⟩]]) (Int.toNat (b.length:Int)) (.agg [c,.int .i64 ((List.length (b++[.agg [.int .i64 24,.int .i64 0,.int .i64 0,.str ⟨#[]⟩],.agg [.int .i64 1,.int .i64 0,.int .i64 1,.str ⟨#[]⟩],.agg [.int .i64 23,.int .i64 0,.int .i64 0,.str ⟨#[]⟩]]):Nat):Int),e,f]))++[.agg [.int .i64 1,.int .i64 0,.int .i64 0,.str ⟨#[]⟩]]):Nat):Int),h,i])):Nat):Int))))then(nthK (List.set ((List.set (b++[.agg [.int .i64 24,.int .i64 0,.int .i64 0,.str ⟨#[]⟩],.agg [.int .i64 1,.int .i64 0,.int .i64 1,.str ⟨#[]⟩],.agg [.int .i64 23,.int .i64 0,.int .i64 0,.str ⟨#[]⟩]]) (Int.toNat (b.length:Int)) (.agg [c,.int .i64 ((List.length (b++[.agg [.int .i64 24,.int .i64 0,.int .i64 0,.str ⟨#[]⟩],.agg [.int .i64 1,.int .i64 0,.int .i64 1,.str ⟨#[]⟩],.agg [.int .i64 23,.int .i64 0,.int .i64 0,.str ⟨#[]⟩]]):Nat):Int),e,f]))++[.agg [.int .i64 1,.int .i64 0,.int .i64 0,.str ⟨#[]⟩]]) (Int.toNat (IntKind.i64.wrap ((a.length:Int)+2))) (.agg [d,.int .i64 ((List.length ((List.set (b++[.agg [.int .i64 24,.int .i64 0,.int .i64 0,.str ⟨#[]⟩],.agg [.int .i64 1,.int .i64 0,.int .i64 1,.str ⟨#[]⟩],.agg [.int .i64 23,.int .i64 0,.int .i64 0,.str ⟨#[]⟩]]) (Int.toNat (b.length:Int)) (.agg [c,.int .i64 ((List.length (b++[.agg [.int .i64 24,.int .i64 0,.int .i64 0,.str ⟨#[]⟩],.agg [.int .i64 1,.int .i64 0,.int .i64 1,.str ⟨#[]⟩],.agg [.int .i64 23,.int .i64 0,.int .i64 0,.str ⟨#[]⟩]]):Nat):Int),e,f]))++[.agg [.int .i64 1,.int .i64 0,.int .i64 0,.str ⟨#[]⟩]]):Nat):Int),h,i])) (Int.toNat (IntKind.i64.wrap ((b.length:Int)+2))) fun g=>ca4 g fun g l m n=>K [.sl 4 (List.set (List.set ((List.set (b++[.agg [.int .i64 24,.int .i64 0,.int .i64 0,.str ⟨#[]⟩],.agg [.int .i64 1,.int .i64 0,.int .i64 1,.str ⟨#[]⟩],.agg [.int .i64 23,.int .i64 0,.int .i64 0,.str ⟨#[]⟩]]) (Int.toNat (b.length:Int)) (.agg [c,.int .i64 ((List.length (b++[.agg [.int .i64 24,.int .i64 0,.int .i64 0,.str ⟨#[]⟩],.agg [.int .i64 1,.int .i64 0,.int .i64 1,.str ⟨#[]⟩],.agg [.int .i64 23,.int .i64 0,.int .i64 0,.str ⟨#[]⟩]]):Nat):Int),e,f]))++[.agg [.int .i64 1,.int .i64 0,.int .i64 0,.str ⟨#[]⟩]]) (Int.toNat (IntKind.i64.wrap ((a.length:Int)+2))) (.agg [d,.int .i64 ((List.length ((List.set (b++[.agg [.int .i64 24,.int .i64 0,.int .i64 0,.str ⟨#[]⟩],.agg [.int .i64 1,.int .i64 0,.int .i64 1,.str ⟨#[]⟩],.agg [.int .i64 23,.int .i64 0,.int .i64 0,.str ⟨#[]⟩]]) (Int.toNat (b.length:Int)) (.agg [c,.int .i64 ((List.length (b++[.agg [.int .i64 24,.int .i64 0,.int .i64 0,.str ⟨#[]⟩],.agg [.int .i64 1,.int .i64 0,.int .i64 1,.str ⟨#[]⟩],.agg [.int .i64 23,.int .i64 0,.int .i64 0,.str ⟨#[]⟩]]):Nat):Int),e,f]))++[.agg [.int .i64 1,.int .i64 0,.int .i64 0,.str ⟨#[]⟩]]):Nat):Int),h,i])) (Int.toNat (IntKind.i64.wrap ((b.length:Int)+2))) (.agg [g,.int .i64 ((List.length ((List.set (b++[.agg [.int .i64 24,.int .i64 0,.int .i64 0,.str ⟨#[]⟩],.agg [.int .i64 1,.int .i64 0,.int .i64 1,.str ⟨#[]⟩],.agg [.int .i64 23,.int .i64 0,.int .i64 0,.str ⟨#[]⟩]]) (Int.toNat (b.length:Int)) (.agg [c,.int .i64 ((List.length (b++[.agg [.int .i64 24,.int .i64 0,.int .i64 0,.str ⟨#[]⟩],.agg [.int .i64 1,.int .i64 0,.int .i64 1,.str ⟨#[]⟩],.agg [.int .i64 23,.int .i64 0,.int .i64 0,.str ⟨#[]⟩]]):Nat):Int),e,f]))++[.agg [.int .i64 1,.int .i64 0,.int .i64 0,.str ⟨#[]⟩]]):Nat):Int),m,n]))])else none)else none)else none)else none)else none))else none)else none)else none))else none)
abbrev g105 {R:Type} (G:ORC R) (k:Nat):LV→(LV→OV R)→OV R:=gF J127 (f105 G k)
theorem s105{R:Type}{G:ORC R}{k:Nat}(hG:Sound Tryz.prog TAB G):TL 105 (g105 G k):=
 gG J127 (by kernel_rfl) (callF_sound (L:=fun _ _ _=>none) (f:=105) TAB_chk MO hG Tryz.func105 (sg:=S105) (by kernel_rfl) (by kernel_rfl) (las [] (by kernel_rfl) trivial))
def P36_0h:Pat:={tmps:=unds [pU,pI,pU,pU,pU,pI] 12 (unds [.var (.sl 4) .ro,pI,pI] 24 []),boxes:=nons [] 45 []}
def P36_0x:Pat:={tmps:=unds [] 5 (unds [pI] 39 []),boxes:=nons [] 45 []}
def b36_0{R:Type}(G:ORC R)(k:Nat)(X:Cu R J60)(Ko:Cu R J5)(a b:Int)(c:LV)(d e:Int):OV R:=
 (bif(decide (e<d))then(bif((decide (0≤e))&&(decide (e<(c.length:Int))))then(nthK c (Int.toNat e) fun f=>V.asAgg f fun f=>ce4 f fun f g h i=>aI .i64 f fun f=>aI .i64 g fun g=>aI .i64 h fun h=>V.asStr i fun i=>bif(f==25)then(bif(decide (e<a))then(bif(decide (a<g))then(X a (IntKind.i64.wrap (b*h)) c d (IntKind.i64.wrap (e+1)))else(X a b c d (IntKind.i64.wrap (e+1))))else(X a b c d (IntKind.i64.wrap (e+1))))else(X a b c d (IntKind.i64.wrap (e+1))))else none)else(Ko b))
def l36_0g{R:Type}(G:ORC R)(k:Nat)(Ko:Cu R J5)(j:Nat):Cu R J60:=lup J60 (fun X=>b36_0 G k X Ko) j
def l36_0{R:Type}(G:ORC R)(k:Nat)(a b:Int)(c:LV)(d e:Int)(Ko:Cu R J5):OV R:=l36_0g G k Ko k a b c d e
def L36{R:Type}(G:ORC R)(k:Nat):Nat→St→(Ex→St→OV R)→OV R
 |0,S,K=>P36_0h.mat S fun vs=>uc J60 (l36_0g G k (koX J5 P36_0x K) k) vs none
 |_,_,_=>none
def f36{R:Type}(G:ORC R)(k:Nat)(a:LV)(b:Int)(K:LV→OV R):OV R:=
 (bif(decide (b<0))then(K [.int .i64 0])else(bif(decide (b≥(a.length:Int)))then(K [.int .i64 0])else(bif((decide (0≤b))&&(decide (b≤(a.length:Int))))then(l36_0 G k b 1 (List.take (Int.toNat b) a) ((List.length (List.take (Int.toNat b) a):Nat):Int) 0 (fun a=>K [.int .i64 a]))else none)))
abbrev g36 {R:Type} (G:ORC R) (k:Nat):LV→(LV→OV R)→OV R:=gF J61 (f36 G k)
theorem s36{R:Type}{G:ORC R}{k:Nat}(hG:Sound Tryz.prog TAB G):TL 36 (g36 G k):=
 gG J61 (by kernel_rfl) (callF_sound (L:=L36 G k) (f:=36) TAB_chk MO hG Tryz.func36 (sg:=S36) (by kernel_rfl) (by kernel_rfl) (las [0] (by kernel_rfl) ⟨loopIs J60 k (fun K X=>b36_0 G k X (koX J5 P36_0x K)) P36_0h P36_0x default (by kernel_rfl) (by kernel_rfl) (by kernel_rfl) (fun K X=>by kernel_rfl) (fun S K=>by kernel_rfl),trivial⟩))
end Go.Proofs.YtnimfaaefdlepaaGreat.Vm
