/- The types of this program, row by row, as the virtual run reads them. -/
import Derived.Test.YtabcdhcpilpojaaGreatDoorCtxm
import Derived.KernelRfl
section
namespace Go.Proofs.YtabcdhcpilpojaaGreatDoor
open Go Go.Virt
@[simp] theorem T0 : vC.T 0 = none := by kernel_rfl
@[simp] theorem T1 : vC.T 1 = some { k := .func, size := 1, bytes := 8, zero := [.nilFunc] } := by kernel_rfl
@[simp] theorem T2 : vC.T 2 = some { k := .int .i64, size := 1, bytes := 8, zero := [(.int .i64 0)] } := by kernel_rfl
@[simp] theorem T3 : vC.T 3 = some { k := .int .i64, size := 1, bytes := 8, zero := [(.int .i64 0)] } := by kernel_rfl
@[simp] theorem T4 : vC.T 4 = some { k := .bool, size := 1, bytes := 1, zero := [(.bool false)] } := by kernel_rfl
@[simp] theorem T5 : vC.T 5 = some { k := .int .u8, size := 1, bytes := 1, zero := [(.int .u8 0)] } := by kernel_rfl
@[simp] theorem T6 : vC.T 6 = some { k := .int .u8, size := 1, bytes := 1, zero := [(.int .u8 0)] } := by kernel_rfl
@[simp] theorem T7 : vC.T 7 = some { k := .struct [(0, 2), (1, 3), (2, 4), (3, 6)], size := 4, bytes := 24, zero := [(.int .i64 0), (.int .i64 0), (.bool false), (.int .u8 0)] } := by kernel_rfl
@[simp] theorem T8 : vC.T 8 = some { k := .struct [(0, 2), (1, 3), (2, 4), (3, 6)], size := 4, bytes := 24, zero := [(.int .i64 0), (.int .i64 0), (.bool false), (.int .u8 0)] } := by kernel_rfl
@[simp] theorem T9 : vC.T 9 = some { k := .str, size := 1, bytes := 16, zero := [(.string ⟨#[]⟩)] } := by kernel_rfl
@[simp] theorem T10 : vC.T 10 = some { k := .str, size := 1, bytes := 16, zero := [(.string ⟨#[]⟩)] } := by kernel_rfl
@[simp] theorem T11 : vC.T 11 = some { k := .str, size := 1, bytes := 16, zero := [(.string ⟨#[]⟩)] } := by kernel_rfl
@[simp] theorem T12 : vC.T 12 = some { k := .int .u64, size := 1, bytes := 8, zero := [(.int .u64 0)] } := by kernel_rfl
@[simp] theorem T13 : vC.T 13 = some { k := .struct [(0, 9), (1, 12)], size := 2, bytes := 24, zero := [(.string ⟨#[]⟩), (.int .u64 0)] } := by kernel_rfl
@[simp] theorem T14 : vC.T 14 = some { k := .struct [(0, 9), (1, 12)], size := 2, bytes := 24, zero := [(.string ⟨#[]⟩), (.int .u64 0)] } := by kernel_rfl
@[simp] theorem T15 : vC.T 15 = some { k := .ptr 274, size := 1, bytes := 8, zero := [(.pointer none)] } := by kernel_rfl
@[simp] theorem T16 : vC.T 16 = some { k := .ptr 277, size := 1, bytes := 8, zero := [(.pointer none)] } := by kernel_rfl
@[simp] theorem T17 : vC.T 17 = some { k := .ptr 285, size := 1, bytes := 8, zero := [(.pointer none)] } := by kernel_rfl
@[simp] theorem T18 : vC.T 18 = some { k := .struct [(0, 17)], size := 1, bytes := 8, zero := [(.pointer none)] } := by kernel_rfl
@[simp] theorem T19 : vC.T 19 = some { k := .struct [(0, 17)], size := 1, bytes := 8, zero := [(.pointer none)] } := by kernel_rfl
@[simp] theorem T20 : vC.T 20 = some { k := .iface, size := 1, bytes := 16, zero := [.nilIface] } := by kernel_rfl
@[simp] theorem T21 : vC.T 21 = some { k := .int .i32, size := 1, bytes := 4, zero := [(.int .i32 0)] } := by kernel_rfl
@[simp] theorem T22 : vC.T 22 = some { k := .slice 3, size := 1, bytes := 24, zero := [(.slice none 0 0)] } := by kernel_rfl
@[simp] theorem T23 : vC.T 23 = some { k := .slice 58, size := 1, bytes := 24, zero := [(.slice none 0 0)] } := by kernel_rfl
@[simp] theorem T24 : vC.T 24 = some { k := .func, size := 1, bytes := 8, zero := [.nilFunc] } := by kernel_rfl
@[simp] theorem T25 : vC.T 25 = some { k := .ptr 82, size := 1, bytes := 8, zero := [(.pointer none)] } := by kernel_rfl
@[simp] theorem T26 : vC.T 26 = some { k := .func, size := 1, bytes := 8, zero := [.nilFunc] } := by kernel_rfl
@[simp] theorem T27 : vC.T 27 = some { k := .slice 47, size := 1, bytes := 24, zero := [(.slice none 0 0)] } := by kernel_rfl
@[simp] theorem T28 : vC.T 28 = some { k := .func, size := 1, bytes := 8, zero := [.nilFunc] } := by kernel_rfl
@[simp] theorem T29 : vC.T 29 = some { k := .int .i64, size := 1, bytes := 8, zero := [(.int .i64 0)] } := by kernel_rfl
@[simp] theorem T30 : vC.T 30 = none := by kernel_rfl
@[simp] theorem T31 : vC.T 31 = some { k := .func, size := 1, bytes := 8, zero := [.nilFunc] } := by kernel_rfl
@[simp] theorem T32 : vC.T 32 = some { k := .func, size := 1, bytes := 8, zero := [.nilFunc] } := by kernel_rfl
@[simp] theorem T33 : vC.T 33 = some { k := .func, size := 1, bytes := 8, zero := [.nilFunc] } := by kernel_rfl
@[simp] theorem T34 : vC.T 34 = some { k := .func, size := 1, bytes := 8, zero := [.nilFunc] } := by kernel_rfl
@[simp] theorem T35 : vC.T 35 = some { k := .func, size := 1, bytes := 8, zero := [.nilFunc] } := by kernel_rfl
@[simp] theorem T36 : vC.T 36 = some { k := .func, size := 1, bytes := 8, zero := [.nilFunc] } := by kernel_rfl
@[simp] theorem T37 : vC.T 37 = some { k := .slice 69, size := 1, bytes := 24, zero := [(.slice none 0 0)] } := by kernel_rfl
@[simp] theorem T38 : vC.T 38 = some { k := .func, size := 1, bytes := 8, zero := [.nilFunc] } := by kernel_rfl
@[simp] theorem T39 : vC.T 39 = some { k := .slice 49, size := 1, bytes := 24, zero := [(.slice none 0 0)] } := by kernel_rfl
@[simp] theorem T40 : vC.T 40 = some { k := .func, size := 1, bytes := 8, zero := [.nilFunc] } := by kernel_rfl
@[simp] theorem T41 : vC.T 41 = some { k := .slice 9, size := 1, bytes := 24, zero := [(.slice none 0 0)] } := by kernel_rfl
@[simp] theorem T42 : vC.T 42 = some { k := .struct [(0, 3), (1, 4), (2, 9), (3, 41), (4, 41)], size := 5, bytes := 80, zero := [(.int .i64 0), (.bool false), (.string ⟨#[]⟩), (.slice none 0 0), (.slice none 0 0)] } := by kernel_rfl
@[simp] theorem T43 : vC.T 43 = some { k := .struct [(0, 3), (1, 4), (2, 9), (3, 41), (4, 41)], size := 5, bytes := 80, zero := [(.int .i64 0), (.bool false), (.string ⟨#[]⟩), (.slice none 0 0), (.slice none 0 0)] } := by kernel_rfl
@[simp] theorem T44 : vC.T 44 = none := by kernel_rfl
@[simp] theorem T45 : vC.T 45 = some { k := .func, size := 1, bytes := 8, zero := [.nilFunc] } := by kernel_rfl
@[simp] theorem T46 : vC.T 46 = some { k := .struct [(0, 9), (1, 23)], size := 2, bytes := 40, zero := [(.string ⟨#[]⟩), (.slice none 0 0)] } := by kernel_rfl
@[simp] theorem T47 : vC.T 47 = some { k := .struct [(0, 9), (1, 23)], size := 2, bytes := 40, zero := [(.string ⟨#[]⟩), (.slice none 0 0)] } := by kernel_rfl
@[simp] theorem T48 : vC.T 48 = some { k := .struct [(0, 9), (1, 43)], size := 6, bytes := 96, zero := [(.string ⟨#[]⟩), (.int .i64 0), (.bool false), (.string ⟨#[]⟩), (.slice none 0 0), (.slice none 0 0)] } := by kernel_rfl
@[simp] theorem T49 : vC.T 49 = some { k := .struct [(0, 9), (1, 43)], size := 6, bytes := 96, zero := [(.string ⟨#[]⟩), (.int .i64 0), (.bool false), (.string ⟨#[]⟩), (.slice none 0 0), (.slice none 0 0)] } := by kernel_rfl
@[simp] theorem T50 : vC.T 50 = some { k := .func, size := 1, bytes := 8, zero := [.nilFunc] } := by kernel_rfl
@[simp] theorem T51 : vC.T 51 = some { k := .func, size := 1, bytes := 8, zero := [.nilFunc] } := by kernel_rfl
@[simp] theorem T52 : vC.T 52 = some { k := .func, size := 1, bytes := 8, zero := [.nilFunc] } := by kernel_rfl
@[simp] theorem T53 : vC.T 53 = some { k := .func, size := 1, bytes := 8, zero := [.nilFunc] } := by kernel_rfl
@[simp] theorem T54 : vC.T 54 = some { k := .func, size := 1, bytes := 8, zero := [.nilFunc] } := by kernel_rfl
@[simp] theorem T55 : vC.T 55 = some { k := .func, size := 1, bytes := 8, zero := [.nilFunc] } := by kernel_rfl
@[simp] theorem T56 : vC.T 56 = some { k := .func, size := 1, bytes := 8, zero := [.nilFunc] } := by kernel_rfl
@[simp] theorem T57 : vC.T 57 = some { k := .struct [(0, 3), (1, 3), (2, 9), (3, 9), (4, 3)], size := 5, bytes := 56, zero := [(.int .i64 0), (.int .i64 0), (.string ⟨#[]⟩), (.string ⟨#[]⟩), (.int .i64 0)] } := by kernel_rfl
@[simp] theorem T58 : vC.T 58 = some { k := .struct [(0, 3), (1, 3), (2, 9), (3, 9), (4, 3)], size := 5, bytes := 56, zero := [(.int .i64 0), (.int .i64 0), (.string ⟨#[]⟩), (.string ⟨#[]⟩), (.int .i64 0)] } := by kernel_rfl
@[simp] theorem T59 : vC.T 59 = some { k := .func, size := 1, bytes := 8, zero := [.nilFunc] } := by kernel_rfl
@[simp] theorem T60 : vC.T 60 = some { k := .func, size := 1, bytes := 8, zero := [.nilFunc] } := by kernel_rfl
@[simp] theorem T61 : vC.T 61 = some { k := .slice 23, size := 1, bytes := 24, zero := [(.slice none 0 0)] } := by kernel_rfl
@[simp] theorem T62 : vC.T 62 = some { k := .func, size := 1, bytes := 8, zero := [.nilFunc] } := by kernel_rfl
@[simp] theorem T63 : vC.T 63 = some { k := .func, size := 1, bytes := 8, zero := [.nilFunc] } := by kernel_rfl
@[simp] theorem T64 : vC.T 64 = some { k := .func, size := 1, bytes := 8, zero := [.nilFunc] } := by kernel_rfl
@[simp] theorem T65 : vC.T 65 = some { k := .func, size := 1, bytes := 8, zero := [.nilFunc] } := by kernel_rfl
@[simp] theorem T66 : vC.T 66 = some { k := .func, size := 1, bytes := 8, zero := [.nilFunc] } := by kernel_rfl
@[simp] theorem T67 : vC.T 67 = some { k := .func, size := 1, bytes := 8, zero := [.nilFunc] } := by kernel_rfl
@[simp] theorem T68 : vC.T 68 = some { k := .struct [(0, 9), (1, 3)], size := 2, bytes := 24, zero := [(.string ⟨#[]⟩), (.int .i64 0)] } := by kernel_rfl
@[simp] theorem T69 : vC.T 69 = some { k := .struct [(0, 9), (1, 3)], size := 2, bytes := 24, zero := [(.string ⟨#[]⟩), (.int .i64 0)] } := by kernel_rfl
@[simp] theorem T70 : vC.T 70 = some { k := .func, size := 1, bytes := 8, zero := [.nilFunc] } := by kernel_rfl
@[simp] theorem T71 : vC.T 71 = some { k := .func, size := 1, bytes := 8, zero := [.nilFunc] } := by kernel_rfl
@[simp] theorem T72 : vC.T 72 = none := by kernel_rfl
@[simp] theorem T73 : vC.T 73 = some { k := .func, size := 1, bytes := 8, zero := [.nilFunc] } := by kernel_rfl
@[simp] theorem T74 : vC.T 74 = none := by kernel_rfl
@[simp] theorem T75 : vC.T 75 = some { k := .func, size := 1, bytes := 8, zero := [.nilFunc] } := by kernel_rfl
@[simp] theorem T76 : vC.T 76 = some { k := .func, size := 1, bytes := 8, zero := [.nilFunc] } := by kernel_rfl
@[simp] theorem T77 : vC.T 77 = some { k := .func, size := 1, bytes := 8, zero := [.nilFunc] } := by kernel_rfl
@[simp] theorem T78 : vC.T 78 = some { k := .func, size := 1, bytes := 8, zero := [.nilFunc] } := by kernel_rfl
@[simp] theorem T79 : vC.T 79 = some { k := .func, size := 1, bytes := 8, zero := [.nilFunc] } := by kernel_rfl
@[simp] theorem T80 : vC.T 80 = some { k := .func, size := 1, bytes := 8, zero := [.nilFunc] } := by kernel_rfl
@[simp] theorem T81 : vC.T 81 = some { k := .struct [(0, 22), (1, 3)], size := 2, bytes := 32, zero := [(.slice none 0 0), (.int .i64 0)] } := by kernel_rfl
@[simp] theorem T82 : vC.T 82 = some { k := .struct [(0, 22), (1, 3)], size := 2, bytes := 32, zero := [(.slice none 0 0), (.int .i64 0)] } := by kernel_rfl
@[simp] theorem T83 : vC.T 83 = some { k := .func, size := 1, bytes := 8, zero := [.nilFunc] } := by kernel_rfl
@[simp] theorem T84 : vC.T 84 = some { k := .func, size := 1, bytes := 8, zero := [.nilFunc] } := by kernel_rfl
@[simp] theorem T85 : vC.T 85 = some { k := .func, size := 1, bytes := 8, zero := [.nilFunc] } := by kernel_rfl
@[simp] theorem T86 : vC.T 86 = some { k := .map 9 23, size := 1, bytes := 8, zero := [(.map none)] } := by kernel_rfl
@[simp] theorem T87 : vC.T 87 = some { k := .ptr 147, size := 1, bytes := 8, zero := [(.pointer none)] } := by kernel_rfl
@[simp] theorem T88 : vC.T 88 = some { k := .func, size := 1, bytes := 8, zero := [.nilFunc] } := by kernel_rfl
@[simp] theorem T89 : vC.T 89 = some { k := .map 9 4, size := 1, bytes := 8, zero := [(.map none)] } := by kernel_rfl
@[simp] theorem T90 : vC.T 90 = none := by kernel_rfl
@[simp] theorem T91 : vC.T 91 = some { k := .func, size := 1, bytes := 8, zero := [.nilFunc] } := by kernel_rfl
@[simp] theorem T92 : vC.T 92 = some { k := .slice 155, size := 1, bytes := 24, zero := [(.slice none 0 0)] } := by kernel_rfl
@[simp] theorem T93 : vC.T 93 = some { k := .func, size := 1, bytes := 8, zero := [.nilFunc] } := by kernel_rfl
@[simp] theorem T94 : vC.T 94 = some { k := .func, size := 1, bytes := 8, zero := [.nilFunc] } := by kernel_rfl
@[simp] theorem T95 : vC.T 95 = some { k := .struct [(0, 37), (1, 92)], size := 2, bytes := 48, zero := [(.slice none 0 0), (.slice none 0 0)] } := by kernel_rfl
@[simp] theorem T96 : vC.T 96 = some { k := .struct [(0, 37), (1, 92)], size := 2, bytes := 48, zero := [(.slice none 0 0), (.slice none 0 0)] } := by kernel_rfl
@[simp] theorem T97 : vC.T 97 = some { k := .slice 4, size := 1, bytes := 24, zero := [(.slice none 0 0)] } := by kernel_rfl
@[simp] theorem T98 : vC.T 98 = some { k := .func, size := 1, bytes := 8, zero := [.nilFunc] } := by kernel_rfl
@[simp] theorem T99 : vC.T 99 = some { k := .func, size := 1, bytes := 8, zero := [.nilFunc] } := by kernel_rfl
@[simp] theorem T100 : vC.T 100 = some { k := .func, size := 1, bytes := 8, zero := [.nilFunc] } := by kernel_rfl
@[simp] theorem T101 : vC.T 101 = some { k := .func, size := 1, bytes := 8, zero := [.nilFunc] } := by kernel_rfl
@[simp] theorem T102 : vC.T 102 = some { k := .func, size := 1, bytes := 8, zero := [.nilFunc] } := by kernel_rfl
@[simp] theorem T103 : vC.T 103 = some { k := .func, size := 1, bytes := 8, zero := [.nilFunc] } := by kernel_rfl
@[simp] theorem T104 : vC.T 104 = some { k := .func, size := 1, bytes := 8, zero := [.nilFunc] } := by kernel_rfl
@[simp] theorem T105 : vC.T 105 = some { k := .func, size := 1, bytes := 8, zero := [.nilFunc] } := by kernel_rfl
@[simp] theorem T106 : vC.T 106 = some { k := .func, size := 1, bytes := 8, zero := [.nilFunc] } := by kernel_rfl
@[simp] theorem T107 : vC.T 107 = some { k := .func, size := 1, bytes := 8, zero := [.nilFunc] } := by kernel_rfl
@[simp] theorem T108 : vC.T 108 = some { k := .func, size := 1, bytes := 8, zero := [.nilFunc] } := by kernel_rfl
@[simp] theorem T109 : vC.T 109 = some { k := .slice 43, size := 1, bytes := 24, zero := [(.slice none 0 0)] } := by kernel_rfl
@[simp] theorem T110 : vC.T 110 = some { k := .func, size := 1, bytes := 8, zero := [.nilFunc] } := by kernel_rfl
@[simp] theorem T111 : vC.T 111 = some { k := .slice 116, size := 1, bytes := 24, zero := [(.slice none 0 0)] } := by kernel_rfl
@[simp] theorem T112 : vC.T 112 = some { k := .func, size := 1, bytes := 8, zero := [.nilFunc] } := by kernel_rfl
@[simp] theorem T113 : vC.T 113 = some { k := .func, size := 1, bytes := 8, zero := [.nilFunc] } := by kernel_rfl
@[simp] theorem T114 : vC.T 114 = some { k := .slice 109, size := 1, bytes := 24, zero := [(.slice none 0 0)] } := by kernel_rfl
@[simp] theorem T115 : vC.T 115 = some { k := .struct [(0, 9), (1, 114), (2, 109), (3, 43)], size := 8, bytes := 144, zero := [(.string ⟨#[]⟩), (.slice none 0 0), (.slice none 0 0), (.int .i64 0), (.bool false), (.string ⟨#[]⟩), (.slice none 0 0), (.slice none 0 0)] } := by kernel_rfl
@[simp] theorem T116 : vC.T 116 = some { k := .struct [(0, 9), (1, 114), (2, 109), (3, 43)], size := 8, bytes := 144, zero := [(.string ⟨#[]⟩), (.slice none 0 0), (.slice none 0 0), (.int .i64 0), (.bool false), (.string ⟨#[]⟩), (.slice none 0 0), (.slice none 0 0)] } := by kernel_rfl
@[simp] theorem T117 : vC.T 117 = some { k := .ptr 119, size := 1, bytes := 8, zero := [(.pointer none)] } := by kernel_rfl
@[simp] theorem T118 : vC.T 118 = some { k := .struct [(0, 23), (1, 39), (2, 111)], size := 3, bytes := 72, zero := [(.slice none 0 0), (.slice none 0 0), (.slice none 0 0)] } := by kernel_rfl
@[simp] theorem T119 : vC.T 119 = some { k := .struct [(0, 23), (1, 39), (2, 111)], size := 3, bytes := 72, zero := [(.slice none 0 0), (.slice none 0 0), (.slice none 0 0)] } := by kernel_rfl
@[simp] theorem T120 : vC.T 120 = none := by kernel_rfl
@[simp] theorem T121 : vC.T 121 = some { k := .func, size := 1, bytes := 8, zero := [.nilFunc] } := by kernel_rfl
@[simp] theorem T122 : vC.T 122 = some { k := .func, size := 1, bytes := 8, zero := [.nilFunc] } := by kernel_rfl
@[simp] theorem T123 : vC.T 123 = some { k := .func, size := 1, bytes := 8, zero := [.nilFunc] } := by kernel_rfl
@[simp] theorem T124 : vC.T 124 = some { k := .int .u64, size := 1, bytes := 8, zero := [(.int .u64 0)] } := by kernel_rfl
@[simp] theorem T125 : vC.T 125 = some { k := .func, size := 1, bytes := 8, zero := [.nilFunc] } := by kernel_rfl
@[simp] theorem T126 : vC.T 126 = some { k := .func, size := 1, bytes := 8, zero := [.nilFunc] } := by kernel_rfl
@[simp] theorem T127 : vC.T 127 = some { k := .func, size := 1, bytes := 8, zero := [.nilFunc] } := by kernel_rfl
@[simp] theorem T128 : vC.T 128 = some { k := .func, size := 1, bytes := 8, zero := [.nilFunc] } := by kernel_rfl
@[simp] theorem T129 : vC.T 129 = none := by kernel_rfl
@[simp] theorem T130 : vC.T 130 = some { k := .func, size := 1, bytes := 8, zero := [.nilFunc] } := by kernel_rfl
@[simp] theorem T131 : vC.T 131 = some { k := .func, size := 1, bytes := 8, zero := [.nilFunc] } := by kernel_rfl
@[simp] theorem T132 : vC.T 132 = some { k := .map 9 9, size := 1, bytes := 8, zero := [(.map none)] } := by kernel_rfl
@[simp] theorem T133 : vC.T 133 = some { k := .func, size := 1, bytes := 8, zero := [.nilFunc] } := by kernel_rfl
@[simp] theorem T134 : vC.T 134 = none := by kernel_rfl
@[simp] theorem T135 : vC.T 135 = some { k := .slice 5, size := 1, bytes := 24, zero := [(.slice none 0 0)] } := by kernel_rfl
@[simp] theorem T136 : vC.T 136 = some { k := .func, size := 1, bytes := 8, zero := [.nilFunc] } := by kernel_rfl
@[simp] theorem T137 : vC.T 137 = some { k := .func, size := 1, bytes := 8, zero := [.nilFunc] } := by kernel_rfl
@[simp] theorem T138 : vC.T 138 = some { k := .func, size := 1, bytes := 8, zero := [.nilFunc] } := by kernel_rfl
@[simp] theorem T139 : vC.T 139 = some { k := .func, size := 1, bytes := 8, zero := [.nilFunc] } := by kernel_rfl
@[simp] theorem T140 : vC.T 140 = some { k := .ptr 152, size := 1, bytes := 8, zero := [(.pointer none)] } := by kernel_rfl
@[simp] theorem T141 : vC.T 141 = none := by kernel_rfl
@[simp] theorem T142 : vC.T 142 = some { k := .func, size := 1, bytes := 8, zero := [.nilFunc] } := by kernel_rfl
@[simp] theorem T143 : vC.T 143 = some { k := .func, size := 1, bytes := 8, zero := [.nilFunc] } := by kernel_rfl
@[simp] theorem T144 : vC.T 144 = some { k := .map 9 3, size := 1, bytes := 8, zero := [(.map none)] } := by kernel_rfl
@[simp] theorem T145 : vC.T 145 = some { k := .map 9 155, size := 1, bytes := 8, zero := [(.map none)] } := by kernel_rfl
@[simp] theorem T146 : vC.T 146 = some { k := .struct [(0, 144), (1, 145)], size := 2, bytes := 16, zero := [(.map none), (.map none)] } := by kernel_rfl
@[simp] theorem T147 : vC.T 147 = some { k := .struct [(0, 144), (1, 145)], size := 2, bytes := 16, zero := [(.map none), (.map none)] } := by kernel_rfl
@[simp] theorem T148 : vC.T 148 = some { k := .struct [(0, 3), (1, 3), (2, 3)], size := 3, bytes := 24, zero := [(.int .i64 0), (.int .i64 0), (.int .i64 0)] } := by kernel_rfl
@[simp] theorem T149 : vC.T 149 = some { k := .struct [(0, 3), (1, 3), (2, 3)], size := 3, bytes := 24, zero := [(.int .i64 0), (.int .i64 0), (.int .i64 0)] } := by kernel_rfl
@[simp] theorem T150 : vC.T 150 = some { k := .slice 149, size := 1, bytes := 24, zero := [(.slice none 0 0)] } := by kernel_rfl
@[simp] theorem T151 : vC.T 151 = some { k := .struct [(0, 23), (1, 150)], size := 2, bytes := 48, zero := [(.slice none 0 0), (.slice none 0 0)] } := by kernel_rfl
@[simp] theorem T152 : vC.T 152 = some { k := .struct [(0, 23), (1, 150)], size := 2, bytes := 48, zero := [(.slice none 0 0), (.slice none 0 0)] } := by kernel_rfl
@[simp] theorem T153 : vC.T 153 = some { k := .func, size := 1, bytes := 8, zero := [.nilFunc] } := by kernel_rfl
@[simp] theorem T154 : vC.T 154 = some { k := .struct [(0, 9), (1, 22), (2, 3)], size := 3, bytes := 48, zero := [(.string ⟨#[]⟩), (.slice none 0 0), (.int .i64 0)] } := by kernel_rfl
@[simp] theorem T155 : vC.T 155 = some { k := .struct [(0, 9), (1, 22), (2, 3)], size := 3, bytes := 48, zero := [(.string ⟨#[]⟩), (.slice none 0 0), (.int .i64 0)] } := by kernel_rfl
@[simp] theorem T156 : vC.T 156 = some { k := .func, size := 1, bytes := 8, zero := [.nilFunc] } := by kernel_rfl
@[simp] theorem T157 : vC.T 157 = some { k := .func, size := 1, bytes := 8, zero := [.nilFunc] } := by kernel_rfl
@[simp] theorem T158 : vC.T 158 = none := by kernel_rfl
@[simp] theorem T159 : vC.T 159 = some { k := .func, size := 1, bytes := 8, zero := [.nilFunc] } := by kernel_rfl
@[simp] theorem T160 : vC.T 160 = some { k := .func, size := 1, bytes := 8, zero := [.nilFunc] } := by kernel_rfl
@[simp] theorem T161 : vC.T 161 = some { k := .ptr 96, size := 1, bytes := 8, zero := [(.pointer none)] } := by kernel_rfl
@[simp] theorem T162 : vC.T 162 = some { k := .func, size := 1, bytes := 8, zero := [.nilFunc] } := by kernel_rfl
@[simp] theorem T163 : vC.T 163 = some { k := .func, size := 1, bytes := 8, zero := [.nilFunc] } := by kernel_rfl
@[simp] theorem T164 : vC.T 164 = some { k := .func, size := 1, bytes := 8, zero := [.nilFunc] } := by kernel_rfl
@[simp] theorem T165 : vC.T 165 = some { k := .array 5 3, size := 5, bytes := 40, zero := [(.int .i64 0), (.int .i64 0), (.int .i64 0), (.int .i64 0), (.int .i64 0)] } := by kernel_rfl
@[simp] theorem T166 : vC.T 166 = some { k := .func, size := 1, bytes := 8, zero := [.nilFunc] } := by kernel_rfl
@[simp] theorem T167 : vC.T 167 = some { k := .func, size := 1, bytes := 8, zero := [.nilFunc] } := by kernel_rfl
@[simp] theorem T168 : vC.T 168 = some { k := .func, size := 1, bytes := 8, zero := [.nilFunc] } := by kernel_rfl
@[simp] theorem T169 : vC.T 169 = some { k := .func, size := 1, bytes := 8, zero := [.nilFunc] } := by kernel_rfl
@[simp] theorem T170 : vC.T 170 = some { k := .func, size := 1, bytes := 8, zero := [.nilFunc] } := by kernel_rfl
@[simp] theorem T171 : vC.T 171 = some { k := .func, size := 1, bytes := 8, zero := [.nilFunc] } := by kernel_rfl
@[simp] theorem T172 : vC.T 172 = some { k := .func, size := 1, bytes := 8, zero := [.nilFunc] } := by kernel_rfl
@[simp] theorem T173 : vC.T 173 = some { k := .func, size := 1, bytes := 8, zero := [.nilFunc] } := by kernel_rfl
@[simp] theorem T174 : vC.T 174 = some { k := .func, size := 1, bytes := 8, zero := [.nilFunc] } := by kernel_rfl
@[simp] theorem T175 : vC.T 175 = none := by kernel_rfl
@[simp] theorem T176 : vC.T 176 = none := by kernel_rfl
@[simp] theorem T177 : vC.T 177 = some { k := .map 9 69, size := 1, bytes := 8, zero := [(.map none)] } := by kernel_rfl
@[simp] theorem T178 : vC.T 178 = none := by kernel_rfl
@[simp] theorem T179 : vC.T 179 = some { k := .func, size := 1, bytes := 8, zero := [.nilFunc] } := by kernel_rfl
@[simp] theorem T180 : vC.T 180 = some { k := .func, size := 1, bytes := 8, zero := [.nilFunc] } := by kernel_rfl
@[simp] theorem T181 : vC.T 181 = some { k := .func, size := 1, bytes := 8, zero := [.nilFunc] } := by kernel_rfl
@[simp] theorem T182 : vC.T 182 = some { k := .func, size := 1, bytes := 8, zero := [.nilFunc] } := by kernel_rfl
@[simp] theorem T183 : vC.T 183 = some { k := .func, size := 1, bytes := 8, zero := [.nilFunc] } := by kernel_rfl
@[simp] theorem T184 : vC.T 184 = some { k := .struct [(0, 4), (1, 9), (2, 9)], size := 3, bytes := 40, zero := [(.bool false), (.string ⟨#[]⟩), (.string ⟨#[]⟩)] } := by kernel_rfl
@[simp] theorem T185 : vC.T 185 = some { k := .struct [(0, 4), (1, 9), (2, 9)], size := 3, bytes := 40, zero := [(.bool false), (.string ⟨#[]⟩), (.string ⟨#[]⟩)] } := by kernel_rfl
@[simp] theorem T186 : vC.T 186 = none := by kernel_rfl
@[simp] theorem T187 : vC.T 187 = some { k := .func, size := 1, bytes := 8, zero := [.nilFunc] } := by kernel_rfl
@[simp] theorem T188 : vC.T 188 = some { k := .func, size := 1, bytes := 8, zero := [.nilFunc] } := by kernel_rfl
@[simp] theorem T189 : vC.T 189 = some { k := .func, size := 1, bytes := 8, zero := [.nilFunc] } := by kernel_rfl
@[simp] theorem T190 : vC.T 190 = some { k := .func, size := 1, bytes := 8, zero := [.nilFunc] } := by kernel_rfl
@[simp] theorem T191 : vC.T 191 = some { k := .func, size := 1, bytes := 8, zero := [.nilFunc] } := by kernel_rfl
@[simp] theorem T192 : vC.T 192 = some { k := .func, size := 1, bytes := 8, zero := [.nilFunc] } := by kernel_rfl
@[simp] theorem T193 : vC.T 193 = some { k := .func, size := 1, bytes := 8, zero := [.nilFunc] } := by kernel_rfl
@[simp] theorem T194 : vC.T 194 = some { k := .func, size := 1, bytes := 8, zero := [.nilFunc] } := by kernel_rfl
@[simp] theorem T195 : vC.T 195 = some { k := .func, size := 1, bytes := 8, zero := [.nilFunc] } := by kernel_rfl
@[simp] theorem T196 : vC.T 196 = some { k := .func, size := 1, bytes := 8, zero := [.nilFunc] } := by kernel_rfl
@[simp] theorem T197 : vC.T 197 = some { k := .func, size := 1, bytes := 8, zero := [.nilFunc] } := by kernel_rfl
@[simp] theorem T198 : vC.T 198 = some { k := .func, size := 1, bytes := 8, zero := [.nilFunc] } := by kernel_rfl
@[simp] theorem T199 : vC.T 199 = some { k := .func, size := 1, bytes := 8, zero := [.nilFunc] } := by kernel_rfl
@[simp] theorem T200 : vC.T 200 = some { k := .func, size := 1, bytes := 8, zero := [.nilFunc] } := by kernel_rfl
@[simp] theorem T201 : vC.T 201 = some { k := .func, size := 1, bytes := 8, zero := [.nilFunc] } := by kernel_rfl
@[simp] theorem T202 : vC.T 202 = some { k := .func, size := 1, bytes := 8, zero := [.nilFunc] } := by kernel_rfl
@[simp] theorem T203 : vC.T 203 = some { k := .func, size := 1, bytes := 8, zero := [.nilFunc] } := by kernel_rfl
@[simp] theorem T204 : vC.T 204 = some { k := .array 24 5, size := 24, bytes := 24, zero := [(.int .u8 0), (.int .u8 0), (.int .u8 0), (.int .u8 0), (.int .u8 0), (.int .u8 0), (.int .u8 0), (.int .u8 0), (.int .u8 0), (.int .u8 0), (.int .u8 0), (.int .u8 0), (.int .u8 0), (.int .u8 0), (.int .u8 0), (.int .u8 0), (.int .u8 0), (.int .u8 0), (.int .u8 0), (.int .u8 0), (.int .u8 0), (.int .u8 0), (.int .u8 0), (.int .u8 0)] } := by kernel_rfl
@[simp] theorem T205 : vC.T 205 = some { k := .int .u64, size := 1, bytes := 8, zero := [(.int .u64 0)] } := by kernel_rfl
@[simp] theorem T206 : vC.T 206 = some { k := .func, size := 1, bytes := 8, zero := [.nilFunc] } := by kernel_rfl
@[simp] theorem T207 : vC.T 207 = some { k := .func, size := 1, bytes := 8, zero := [.nilFunc] } := by kernel_rfl
@[simp] theorem T208 : vC.T 208 = none := by kernel_rfl
@[simp] theorem T209 : vC.T 209 = some { k := .func, size := 1, bytes := 8, zero := [.nilFunc] } := by kernel_rfl
@[simp] theorem T210 : vC.T 210 = some { k := .func, size := 1, bytes := 8, zero := [.nilFunc] } := by kernel_rfl
@[simp] theorem T211 : vC.T 211 = some { k := .func, size := 1, bytes := 8, zero := [.nilFunc] } := by kernel_rfl
@[simp] theorem T212 : vC.T 212 = none := by kernel_rfl
@[simp] theorem T213 : vC.T 213 = some { k := .func, size := 1, bytes := 8, zero := [.nilFunc] } := by kernel_rfl
@[simp] theorem T214 : vC.T 214 = some { k := .func, size := 1, bytes := 8, zero := [.nilFunc] } := by kernel_rfl
@[simp] theorem T215 : vC.T 215 = some { k := .array 20 205, size := 20, bytes := 160, zero := [(.int .u64 0), (.int .u64 0), (.int .u64 0), (.int .u64 0), (.int .u64 0), (.int .u64 0), (.int .u64 0), (.int .u64 0), (.int .u64 0), (.int .u64 0), (.int .u64 0), (.int .u64 0), (.int .u64 0), (.int .u64 0), (.int .u64 0), (.int .u64 0), (.int .u64 0), (.int .u64 0), (.int .u64 0), (.int .u64 0)] } := by kernel_rfl
@[simp] theorem T216 : vC.T 216 = some { k := .int .u32, size := 1, bytes := 4, zero := [(.int .u32 0)] } := by kernel_rfl
@[simp] theorem T217 : vC.T 217 = some { k := .array 65 5, size := 65, bytes := 65, zero := [(.int .u8 0), (.int .u8 0), (.int .u8 0), (.int .u8 0), (.int .u8 0), (.int .u8 0), (.int .u8 0), (.int .u8 0), (.int .u8 0), (.int .u8 0), (.int .u8 0), (.int .u8 0), (.int .u8 0), (.int .u8 0), (.int .u8 0), (.int .u8 0), (.int .u8 0), (.int .u8 0), (.int .u8 0), (.int .u8 0), (.int .u8 0), (.int .u8 0), (.int .u8 0), (.int .u8 0), (.int .u8 0), (.int .u8 0), (.int .u8 0), (.int .u8 0), (.int .u8 0), (.int .u8 0), (.int .u8 0), (.int .u8 0), (.int .u8 0), (.int .u8 0), (.int .u8 0), (.int .u8 0), (.int .u8 0), (.int .u8 0), (.int .u8 0), (.int .u8 0), (.int .u8 0), (.int .u8 0), (.int .u8 0), (.int .u8 0), (.int .u8 0), (.int .u8 0), (.int .u8 0), (.int .u8 0), (.int .u8 0), (.int .u8 0), (.int .u8 0), (.int .u8 0), (.int .u8 0), (.int .u8 0), (.int .u8 0), (.int .u8 0), (.int .u8 0), (.int .u8 0), (.int .u8 0), (.int .u8 0), (.int .u8 0), (.int .u8 0), (.int .u8 0), (.int .u8 0), (.int .u8 0)] } := by kernel_rfl
@[simp] theorem T218 : vC.T 218 = some { k := .func, size := 1, bytes := 8, zero := [.nilFunc] } := by kernel_rfl
@[simp] theorem T219 : vC.T 219 = some { k := .func, size := 1, bytes := 8, zero := [.nilFunc] } := by kernel_rfl
@[simp] theorem T220 : vC.T 220 = some { k := .func, size := 1, bytes := 8, zero := [.nilFunc] } := by kernel_rfl
@[simp] theorem T221 : vC.T 221 = some { k := .func, size := 1, bytes := 8, zero := [.nilFunc] } := by kernel_rfl
@[simp] theorem T222 : vC.T 222 = some { k := .struct [(0, 2), (1, 2)], size := 2, bytes := 16, zero := [(.int .i64 0), (.int .i64 0)] } := by kernel_rfl
@[simp] theorem T223 : vC.T 223 = some { k := .struct [(0, 2), (1, 2)], size := 2, bytes := 16, zero := [(.int .i64 0), (.int .i64 0)] } := by kernel_rfl
@[simp] theorem T224 : vC.T 224 = none := by kernel_rfl
@[simp] theorem T225 : vC.T 225 = some { k := .func, size := 1, bytes := 8, zero := [.nilFunc] } := by kernel_rfl
@[simp] theorem T226 : vC.T 226 = some { k := .slice 216, size := 1, bytes := 24, zero := [(.slice none 0 0)] } := by kernel_rfl
@[simp] theorem T227 : vC.T 227 = some { k := .slice 216, size := 1, bytes := 24, zero := [(.slice none 0 0)] } := by kernel_rfl
@[simp] theorem T228 : vC.T 228 = some { k := .struct [(0, 4), (1, 227), (2, 227)], size := 3, bytes := 56, zero := [(.bool false), (.slice none 0 0), (.slice none 0 0)] } := by kernel_rfl
@[simp] theorem T229 : vC.T 229 = some { k := .struct [(0, 4), (1, 227), (2, 227)], size := 3, bytes := 56, zero := [(.bool false), (.slice none 0 0), (.slice none 0 0)] } := by kernel_rfl
@[simp] theorem T230 : vC.T 230 = none := by kernel_rfl
@[simp] theorem T231 : vC.T 231 = some { k := .func, size := 1, bytes := 8, zero := [.nilFunc] } := by kernel_rfl
@[simp] theorem T232 : vC.T 232 = some { k := .func, size := 1, bytes := 8, zero := [.nilFunc] } := by kernel_rfl
@[simp] theorem T233 : vC.T 233 = some { k := .array 32 5, size := 32, bytes := 32, zero := [(.int .u8 0), (.int .u8 0), (.int .u8 0), (.int .u8 0), (.int .u8 0), (.int .u8 0), (.int .u8 0), (.int .u8 0), (.int .u8 0), (.int .u8 0), (.int .u8 0), (.int .u8 0), (.int .u8 0), (.int .u8 0), (.int .u8 0), (.int .u8 0), (.int .u8 0), (.int .u8 0), (.int .u8 0), (.int .u8 0), (.int .u8 0), (.int .u8 0), (.int .u8 0), (.int .u8 0), (.int .u8 0), (.int .u8 0), (.int .u8 0), (.int .u8 0), (.int .u8 0), (.int .u8 0), (.int .u8 0), (.int .u8 0)] } := by kernel_rfl
@[simp] theorem T234 : vC.T 234 = some { k := .array 64 5, size := 64, bytes := 64, zero := [(.int .u8 0), (.int .u8 0), (.int .u8 0), (.int .u8 0), (.int .u8 0), (.int .u8 0), (.int .u8 0), (.int .u8 0), (.int .u8 0), (.int .u8 0), (.int .u8 0), (.int .u8 0), (.int .u8 0), (.int .u8 0), (.int .u8 0), (.int .u8 0), (.int .u8 0), (.int .u8 0), (.int .u8 0), (.int .u8 0), (.int .u8 0), (.int .u8 0), (.int .u8 0), (.int .u8 0), (.int .u8 0), (.int .u8 0), (.int .u8 0), (.int .u8 0), (.int .u8 0), (.int .u8 0), (.int .u8 0), (.int .u8 0), (.int .u8 0), (.int .u8 0), (.int .u8 0), (.int .u8 0), (.int .u8 0), (.int .u8 0), (.int .u8 0), (.int .u8 0), (.int .u8 0), (.int .u8 0), (.int .u8 0), (.int .u8 0), (.int .u8 0), (.int .u8 0), (.int .u8 0), (.int .u8 0), (.int .u8 0), (.int .u8 0), (.int .u8 0), (.int .u8 0), (.int .u8 0), (.int .u8 0), (.int .u8 0), (.int .u8 0), (.int .u8 0), (.int .u8 0), (.int .u8 0), (.int .u8 0), (.int .u8 0), (.int .u8 0), (.int .u8 0), (.int .u8 0)] } := by kernel_rfl
@[simp] theorem T235 : vC.T 235 = none := by kernel_rfl
@[simp] theorem T236 : vC.T 236 = some { k := .func, size := 1, bytes := 8, zero := [.nilFunc] } := by kernel_rfl
@[simp] theorem T237 : vC.T 237 = some { k := .iface, size := 1, bytes := 16, zero := [.nilIface] } := by kernel_rfl
@[simp] theorem T238 : vC.T 238 = some { k := .iface, size := 1, bytes := 16, zero := [.nilIface] } := by kernel_rfl
@[simp] theorem T239 : vC.T 239 = none := by kernel_rfl
@[simp] theorem T240 : vC.T 240 = some { k := .func, size := 1, bytes := 8, zero := [.nilFunc] } := by kernel_rfl
@[simp] theorem T241 : vC.T 241 = some { k := .func, size := 1, bytes := 8, zero := [.nilFunc] } := by kernel_rfl
@[simp] theorem T242 : vC.T 242 = some { k := .func, size := 1, bytes := 8, zero := [.nilFunc] } := by kernel_rfl
@[simp] theorem T243 : vC.T 243 = some { k := .func, size := 1, bytes := 8, zero := [.nilFunc] } := by kernel_rfl
@[simp] theorem T244 : vC.T 244 = some { k := .func, size := 1, bytes := 8, zero := [.nilFunc] } := by kernel_rfl
@[simp] theorem T245 : vC.T 245 = some { k := .func, size := 1, bytes := 8, zero := [.nilFunc] } := by kernel_rfl
@[simp] theorem T246 : vC.T 246 = some { k := .func, size := 1, bytes := 8, zero := [.nilFunc] } := by kernel_rfl
@[simp] theorem T247 : vC.T 247 = none := by kernel_rfl
@[simp] theorem T248 : vC.T 248 = some { k := .func, size := 1, bytes := 8, zero := [.nilFunc] } := by kernel_rfl
@[simp] theorem T249 : vC.T 249 = some { k := .int .i64, size := 1, bytes := 8, zero := [(.int .i64 0)] } := by kernel_rfl
@[simp] theorem T250 : vC.T 250 = none := by kernel_rfl
@[simp] theorem T251 : vC.T 251 = some { k := .func, size := 1, bytes := 8, zero := [.nilFunc] } := by kernel_rfl
@[simp] theorem T252 : vC.T 252 = some { k := .ptr 262, size := 1, bytes := 8, zero := [(.pointer none)] } := by kernel_rfl
@[simp] theorem T253 : vC.T 253 = some { k := .func, size := 1, bytes := 8, zero := [.nilFunc] } := by kernel_rfl
@[simp] theorem T254 : vC.T 254 = some { k := .func, size := 1, bytes := 8, zero := [.nilFunc] } := by kernel_rfl
@[simp] theorem T255 : vC.T 255 = some { k := .func, size := 1, bytes := 8, zero := [.nilFunc] } := by kernel_rfl
@[simp] theorem T256 : vC.T 256 = some { k := .func, size := 1, bytes := 8, zero := [.nilFunc] } := by kernel_rfl
@[simp] theorem T257 : vC.T 257 = some { k := .func, size := 1, bytes := 8, zero := [.nilFunc] } := by kernel_rfl
@[simp] theorem T258 : vC.T 258 = some { k := .func, size := 1, bytes := 8, zero := [.nilFunc] } := by kernel_rfl
@[simp] theorem T259 : vC.T 259 = some { k := .func, size := 1, bytes := 8, zero := [.nilFunc] } := by kernel_rfl
@[simp] theorem T260 : vC.T 260 = some { k := .func, size := 1, bytes := 8, zero := [.nilFunc] } := by kernel_rfl
@[simp] theorem T261 : vC.T 261 = some { k := .struct [(0, 9), (1, 9), (2, 238)], size := 3, bytes := 48, zero := [(.string ⟨#[]⟩), (.string ⟨#[]⟩), .nilIface] } := by kernel_rfl
@[simp] theorem T262 : vC.T 262 = some { k := .struct [(0, 9), (1, 9), (2, 238)], size := 3, bytes := 48, zero := [(.string ⟨#[]⟩), (.string ⟨#[]⟩), .nilIface] } := by kernel_rfl
@[simp] theorem T263 : vC.T 263 = some { k := .func, size := 1, bytes := 8, zero := [.nilFunc] } := by kernel_rfl
@[simp] theorem T264 : vC.T 264 = some { k := .func, size := 1, bytes := 8, zero := [.nilFunc] } := by kernel_rfl
@[simp] theorem T265 : vC.T 265 = some { k := .func, size := 1, bytes := 8, zero := [.nilFunc] } := by kernel_rfl
@[simp] theorem T266 : vC.T 266 = none := by kernel_rfl
@[simp] theorem T267 : vC.T 267 = some { k := .func, size := 1, bytes := 8, zero := [.nilFunc] } := by kernel_rfl
@[simp] theorem T268 : vC.T 268 = some { k := .ptr 5, size := 1, bytes := 8, zero := [(.pointer none)] } := by kernel_rfl
@[simp] theorem T269 : vC.T 269 = some { k := .ptr 271, size := 1, bytes := 8, zero := [(.pointer none)] } := by kernel_rfl
@[simp] theorem T270 : vC.T 270 = some { k := .struct [(0, 9)], size := 1, bytes := 16, zero := [(.string ⟨#[]⟩)] } := by kernel_rfl
@[simp] theorem T271 : vC.T 271 = some { k := .struct [(0, 9)], size := 1, bytes := 16, zero := [(.string ⟨#[]⟩)] } := by kernel_rfl
@[simp] theorem T272 : vC.T 272 = some { k := .func, size := 1, bytes := 8, zero := [.nilFunc] } := by kernel_rfl
@[simp] theorem T273 : vC.T 273 = some { k := .struct [(0, 17), (1, 17), (2, 17), (3, 9)], size := 4, bytes := 40, zero := [(.pointer none), (.pointer none), (.pointer none), (.string ⟨#[]⟩)] } := by kernel_rfl
@[simp] theorem T274 : vC.T 274 = some { k := .struct [(0, 17), (1, 17), (2, 17), (3, 9)], size := 4, bytes := 40, zero := [(.pointer none), (.pointer none), (.pointer none), (.string ⟨#[]⟩)] } := by kernel_rfl
@[simp] theorem T275 : vC.T 275 = some { k := .array 0 16, size := 0, bytes := 0, zero := [] } := by kernel_rfl
@[simp] theorem T276 : vC.T 276 = some { k := .struct [(0, 275)], size := 0, bytes := 0, zero := [] } := by kernel_rfl
@[simp] theorem T277 : vC.T 277 = some { k := .struct [(0, 275)], size := 0, bytes := 0, zero := [] } := by kernel_rfl
@[simp] theorem T278 : vC.T 278 = some { k := .func, size := 1, bytes := 8, zero := [.nilFunc] } := by kernel_rfl
@[simp] theorem T279 : vC.T 279 = some { k := .int .u8, size := 1, bytes := 1, zero := [(.int .u8 0)] } := by kernel_rfl
@[simp] theorem T280 : vC.T 280 = some { k := .int .u8, size := 1, bytes := 1, zero := [(.int .u8 0)] } := by kernel_rfl
@[simp] theorem T281 : vC.T 281 = some { k := .func, size := 1, bytes := 8, zero := [.nilFunc] } := by kernel_rfl
@[simp] theorem T282 : vC.T 282 = some { k := .int .i32, size := 1, bytes := 4, zero := [(.int .i32 0)] } := by kernel_rfl
@[simp] theorem T283 : vC.T 283 = some { k := .int .i32, size := 1, bytes := 4, zero := [(.int .i32 0)] } := by kernel_rfl
@[simp] theorem T284 : vC.T 284 = some { k := .struct [(0, 12), (1, 12), (2, 216), (3, 279), (4, 5), (5, 5), (6, 280), (7, 281), (8, 268), (9, 282), (10, 283)], size := 11, bytes := 48, zero := [(.int .u64 0), (.int .u64 0), (.int .u32 0), (.int .u8 0), (.int .u8 0), (.int .u8 0), (.int .u8 0), .nilFunc, (.pointer none), (.int .i32 0), (.int .i32 0)] } := by kernel_rfl
@[simp] theorem T285 : vC.T 285 = some { k := .struct [(0, 12), (1, 12), (2, 216), (3, 279), (4, 5), (5, 5), (6, 280), (7, 281), (8, 268), (9, 282), (10, 283)], size := 11, bytes := 48, zero := [(.int .u64 0), (.int .u64 0), (.int .u32 0), (.int .u8 0), (.int .u8 0), (.int .u8 0), (.int .u8 0), .nilFunc, (.pointer none), (.int .i32 0), (.int .i32 0)] } := by kernel_rfl
@[simp] theorem T286 : vC.T 286 = none := by kernel_rfl
@[simp] theorem vExt (f : Nat) (a : List Value) : vC.ext f a = none := rfl
@[simp] theorem vG : vC.G = 0 := rfl
end Go.Proofs.YtabcdhcpilpojaaGreatDoor
end
