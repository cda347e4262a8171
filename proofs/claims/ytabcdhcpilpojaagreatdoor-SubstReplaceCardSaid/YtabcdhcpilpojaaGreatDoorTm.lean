/- The types of this program, row by row, as the virtual run reads them. -/
import Derived.Test.YtabcdhcpilpojaaGreatDoorCt
import Derived.KernelRfl
set_option linter.unusedSimpArgs false
set_option linter.unusedVariables false
section
namespace Go.Proofs.YtabcdhcpilpojaaGreatDoor
open Go Go.Virt
@[simp] theorem T2:vC.T 2=some {k:=.int .i64,size:=1,bytes:=8,zero:=[(.int .i64 0)]}:=by kernel_rfl
@[simp] theorem T3:vC.T 3=some {k:=.int .i64,size:=1,bytes:=8,zero:=[(.int .i64 0)]}:=by kernel_rfl
@[simp] theorem T4:vC.T 4=some {k:=.bool,size:=1,bytes:=1,zero:=[(.bool false)]}:=by kernel_rfl
@[simp] theorem T5:vC.T 5=some {k:=.int .u8,size:=1,bytes:=1,zero:=[(.int .u8 0)]}:=by kernel_rfl
@[simp] theorem T9:vC.T 9=some {k:=.str,size:=1,bytes:=16,zero:=[(.string ⟨#[]⟩)]}:=by kernel_rfl
@[simp] theorem T22:vC.T 22=some {k:=.slice 3,size:=1,bytes:=24,zero:=[(.slice none 0 0)]}:=by kernel_rfl
@[simp] theorem T23:vC.T 23=some {k:=.slice 58,size:=1,bytes:=24,zero:=[(.slice none 0 0)]}:=by kernel_rfl
@[simp] theorem T37:vC.T 37=some {k:=.slice 69,size:=1,bytes:=24,zero:=[(.slice none 0 0)]}:=by kernel_rfl
@[simp] theorem T41:vC.T 41=some {k:=.slice 9,size:=1,bytes:=24,zero:=[(.slice none 0 0)]}:=by kernel_rfl
@[simp] theorem T43:vC.T 43=some {k:=.struct [(0,3),(1,4),(2,9),(3,41),(4,41)],size:=5,bytes:=80,zero:=[(.int .i64 0),(.bool false),(.string ⟨#[]⟩),(.slice none 0 0),(.slice none 0 0)]}:=by kernel_rfl
@[simp] theorem T58:vC.T 58=some {k:=.struct [(0,3),(1,3),(2,9),(3,9),(4,3)],size:=5,bytes:=56,zero:=[(.int .i64 0),(.int .i64 0),(.string ⟨#[]⟩),(.string ⟨#[]⟩),(.int .i64 0)]}:=by kernel_rfl
@[simp] theorem T61:vC.T 61=some {k:=.slice 23,size:=1,bytes:=24,zero:=[(.slice none 0 0)]}:=by kernel_rfl
@[simp] theorem T69:vC.T 69=some {k:=.struct [(0,9),(1,3)],size:=2,bytes:=24,zero:=[(.string ⟨#[]⟩),(.int .i64 0)]}:=by kernel_rfl
@[simp] theorem T82:vC.T 82=some {k:=.struct [(0,22),(1,3)],size:=2,bytes:=32,zero:=[(.slice none 0 0),(.int .i64 0)]}:=by kernel_rfl
@[simp] theorem T92:vC.T 92=some {k:=.slice 155,size:=1,bytes:=24,zero:=[(.slice none 0 0)]}:=by kernel_rfl
@[simp] theorem T96:vC.T 96=some {k:=.struct [(0,37),(1,92)],size:=2,bytes:=48,zero:=[(.slice none 0 0),(.slice none 0 0)]}:=by kernel_rfl
@[simp] theorem T97:vC.T 97=some {k:=.slice 4,size:=1,bytes:=24,zero:=[(.slice none 0 0)]}:=by kernel_rfl
@[simp] theorem T124:vC.T 124=some {k:=.int .u64,size:=1,bytes:=8,zero:=[(.int .u64 0)]}:=by kernel_rfl
@[simp] theorem T135:vC.T 135=some {k:=.slice 5,size:=1,bytes:=24,zero:=[(.slice none 0 0)]}:=by kernel_rfl
@[simp] theorem T140:vC.T 140=some {k:=.ptr 152,size:=1,bytes:=8,zero:=[(.pointer none)]}:=by kernel_rfl
@[simp] theorem T144:vC.T 144=some {k:=.map 9 3,size:=1,bytes:=8,zero:=[(.map none)]}:=by kernel_rfl
@[simp] theorem T145:vC.T 145=some {k:=.map 9 155,size:=1,bytes:=8,zero:=[(.map none)]}:=by kernel_rfl
@[simp] theorem T147:vC.T 147=some {k:=.struct [(0,144),(1,145)],size:=2,bytes:=16,zero:=[(.map none),(.map none)]}:=by kernel_rfl
@[simp] theorem T149:vC.T 149=some {k:=.struct [(0,3),(1,3),(2,3)],size:=3,bytes:=24,zero:=[(.int .i64 0),(.int .i64 0),(.int .i64 0)]}:=by kernel_rfl
@[simp] theorem T150:vC.T 150=some {k:=.slice 149,size:=1,bytes:=24,zero:=[(.slice none 0 0)]}:=by kernel_rfl
@[simp] theorem T152:vC.T 152=some {k:=.struct [(0,23),(1,150)],size:=2,bytes:=48,zero:=[(.slice none 0 0),(.slice none 0 0)]}:=by kernel_rfl
@[simp] theorem T155:vC.T 155=some {k:=.struct [(0,9),(1,22),(2,3)],size:=3,bytes:=48,zero:=[(.string ⟨#[]⟩),(.slice none 0 0),(.int .i64 0)]}:=by kernel_rfl
@[simp] theorem T165:vC.T 165=some {k:=.array 5 3,size:=5,bytes:=40,zero:=[(.int .i64 0),(.int .i64 0),(.int .i64 0),(.int .i64 0),(.int .i64 0)]}:=by kernel_rfl
@[simp] theorem T177:vC.T 177=some {k:=.map 9 69,size:=1,bytes:=8,zero:=[(.map none)]}:=by kernel_rfl
@[simp] theorem T185:vC.T 185=some {k:=.struct [(0,4),(1,9),(2,9)],size:=3,bytes:=40,zero:=[(.bool false),(.string ⟨#[]⟩),(.string ⟨#[]⟩)]}:=by kernel_rfl
@[simp] theorem T205:vC.T 205=some {k:=.int .u64,size:=1,bytes:=8,zero:=[(.int .u64 0)]}:=by kernel_rfl
@[simp] theorem T216:vC.T 216=some {k:=.int .u32,size:=1,bytes:=4,zero:=[(.int .u32 0)]}:=by kernel_rfl
@[simp] theorem T223:vC.T 223=some {k:=.struct [(0,2),(1,2)],size:=2,bytes:=16,zero:=[(.int .i64 0),(.int .i64 0)]}:=by kernel_rfl
@[simp] theorem T227:vC.T 227=some {k:=.slice 216,size:=1,bytes:=24,zero:=[(.slice none 0 0)]}:=by kernel_rfl
@[simp] theorem T229:vC.T 229=some {k:=.struct [(0,4),(1,227),(2,227)],size:=3,bytes:=56,zero:=[(.bool false),(.slice none 0 0),(.slice none 0 0)]}:=by kernel_rfl
@[simp] theorem T238:vC.T 238=some {k:=.iface,size:=1,bytes:=16,zero:=[.nilIface]}:=by kernel_rfl
@[simp] theorem T249:vC.T 249=some {k:=.int .i64,size:=1,bytes:=8,zero:=[(.int .i64 0)]}:=by kernel_rfl
@[simp] theorem vExt (f:Nat)(a:List Value):vC.ext f a=none:=rfl
@[simp] theorem vG:vC.G=0:=rfl
end Go.Proofs.YtabcdhcpilpojaaGreatDoor
end
