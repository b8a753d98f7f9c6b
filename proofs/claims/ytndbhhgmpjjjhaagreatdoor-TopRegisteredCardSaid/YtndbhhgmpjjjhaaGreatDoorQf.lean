/-
  The types of the program. The list of numbers that everything is made from: the next number, a new list. From 'the walk returns true and leaves what lay there as it was' to a statement's row; the arguments that come in, as the abstract machine sees them. Bytes, numbers of several bytes, addresses, check sums, packets: plain words and laws. Addresses and bytes as the abstract machine sees them; small functions of addresses and neighbours. The database of members as the abstract machine sees it; keys of its maps. Comparing structs and arrays of numbers. Which messages are valid: both texts. Check sums, addresses from bytes: both texts. The bytes of an address: both texts.
-/
import Derived.Test.YtndbhhgmpjjjhaaGreatDoorMab
import Derived.KernelRfl
import Derived.Test.YtndbhhgmpjjjhaaGreatDoorRows
import Derived.ProofKit
import Derived.Laws.Entries
import Derived.Laws.CopyOwn
import Derived.OpenShut
import Derived.DeepKeys
namespace Go.Proofs.YtndbhhgmpjjjhaaGreatDoor
open Go.RowKit
theorem ty2:TyOK Tryz.prog 2 (.int .i64) 1 8 [.base (.int .i64 0)]:=by unfold TyOK;kernel_rfl
theorem ty3:TyOK Tryz.prog 3 (.int .i64) 1 8 [.base (.int .i64 0)]:=by unfold TyOK;kernel_rfl
theorem ty4:TyOK Tryz.prog 4 (.bool) 1 1 [.base (.bool false)]:=by unfold TyOK;kernel_rfl
theorem ty5:TyOK Tryz.prog 5 (.int .u8) 1 1 [.base (.int .u8 0)]:=by unfold TyOK;kernel_rfl
theorem ty6:TyOK Tryz.prog 6 (.int .u8) 1 1 [.base (.int .u8 0)]:=by unfold TyOK;kernel_rfl
theorem ty7:TyOK Tryz.prog 7 (.st [(0,1,2),(1,1,3),(2,1,4),(3,1,6)]) 4 24 [.base (.int .i64 0),.base (.int .i64 0),.base (.bool false),.base (.int .u8 0)]:=by unfold TyOK;kernel_rfl
theorem ty8:TyOK Tryz.prog 8 (.st [(0,1,2),(1,1,3),(2,1,4),(3,1,6)]) 4 24 [.base (.int .i64 0),.base (.int .i64 0),.base (.bool false),.base (.int .u8 0)]:=by unfold TyOK;kernel_rfl
theorem ty9:TyOK Tryz.prog 9 (.str) 1 16 [.base (.string ⟨#[]⟩)]:=by unfold TyOK;kernel_rfl
theorem ty10:TyOK Tryz.prog 10 (.str) 1 16 [.base (.string ⟨#[]⟩)]:=by unfold TyOK;kernel_rfl
theorem ty11:TyOK Tryz.prog 11 (.str) 1 16 [.base (.string ⟨#[]⟩)]:=by unfold TyOK;kernel_rfl
theorem ty12:TyOK Tryz.prog 12 (.int .u64) 1 8 [.base (.int .u64 0)]:=by unfold TyOK;kernel_rfl
theorem ty13:TyOK Tryz.prog 13 (.st [(0,1,9),(1,1,12)]) 2 24 [.base (.string ⟨#[]⟩),.base (.int .u64 0)]:=by unfold TyOK;kernel_rfl
theorem ty14:TyOK Tryz.prog 14 (.st [(0,1,9),(1,1,12)]) 2 24 [.base (.string ⟨#[]⟩),.base (.int .u64 0)]:=by unfold TyOK;kernel_rfl
theorem ty15:TyOK Tryz.prog 15 (.ptr 427) 1 8 [.base (.pointer none)]:=by unfold TyOK;kernel_rfl
theorem ty16:TyOK Tryz.prog 16 (.ptr 430) 1 8 [.base (.pointer none)]:=by unfold TyOK;kernel_rfl
theorem ty17:TyOK Tryz.prog 17 (.ptr 437) 1 8 [.base (.pointer none)]:=by unfold TyOK;kernel_rfl
theorem ty18:TyOK Tryz.prog 18 (.st [(0,1,17)]) 1 8 [.base (.pointer none)]:=by unfold TyOK;kernel_rfl
theorem ty19:TyOK Tryz.prog 19 (.st [(0,1,17)]) 1 8 [.base (.pointer none)]:=by unfold TyOK;kernel_rfl
theorem ty21:TyOK Tryz.prog 21 (.int .i32) 1 4 [.base (.int .i32 0)]:=by unfold TyOK;kernel_rfl
theorem ty22:TyOK Tryz.prog 22 (.sl 3) 1 24 [.nils]:=by unfold TyOK;kernel_rfl
theorem ty23:TyOK Tryz.prog 23 (.ptr 63) 1 8 [.base (.pointer none)]:=by unfold TyOK;kernel_rfl
theorem ty25:TyOK Tryz.prog 25 (.sl 65) 1 24 [.nils]:=by unfold TyOK;kernel_rfl
theorem ty26:TyOK Tryz.prog 26 (.sl 38) 1 24 [.nils]:=by unfold TyOK;kernel_rfl
theorem ty27:TyOK Tryz.prog 27 (.st [(0,1,25),(1,1,26)]) 2 48 [.nils,.nils]:=by unfold TyOK;kernel_rfl
theorem ty28:TyOK Tryz.prog 28 (.st [(0,1,25),(1,1,26)]) 2 48 [.nils,.nils]:=by unfold TyOK;kernel_rfl
theorem ty31:TyOK Tryz.prog 31 (.sl 51) 1 24 [.nils]:=by unfold TyOK;kernel_rfl
theorem ty32:TyOK Tryz.prog 32 (.int .u64) 1 8 [.base (.int .u64 0)]:=by unfold TyOK;kernel_rfl
theorem ty33:TyOK Tryz.prog 33 (.st [(0,1,4),(1,1,32),(2,1,32)]) 3 24 [.base (.bool false),.base (.int .u64 0),.base (.int .u64 0)]:=by unfold TyOK;kernel_rfl
theorem ty34:TyOK Tryz.prog 34 (.st [(0,1,4),(1,1,32),(2,1,32)]) 3 24 [.base (.bool false),.base (.int .u64 0),.base (.int .u64 0)]:=by unfold TyOK;kernel_rfl
theorem ty35:TyOK Tryz.prog 35 (.st [(0,3,34),(3,1,3)]) 4 32 [.base (.bool false),.base (.int .u64 0),.base (.int .u64 0),.base (.int .i64 0)]:=by unfold TyOK;kernel_rfl
theorem ty36:TyOK Tryz.prog 36 (.st [(0,3,34),(3,1,3)]) 4 32 [.base (.bool false),.base (.int .u64 0),.base (.int .u64 0),.base (.int .i64 0)]:=by unfold TyOK;kernel_rfl
theorem ty37:TyOK Tryz.prog 37 (.st [(0,4,36),(4,1,3),(5,1,3)]) 6 48 [.base (.bool false),.base (.int .u64 0),.base (.int .u64 0),.base (.int .i64 0),.base (.int .i64 0),.base (.int .i64 0)]:=by unfold TyOK;kernel_rfl
theorem ty38:TyOK Tryz.prog 38 (.st [(0,4,36),(4,1,3),(5,1,3)]) 6 48 [.base (.bool false),.base (.int .u64 0),.base (.int .u64 0),.base (.int .i64 0),.base (.int .i64 0),.base (.int .i64 0)]:=by unfold TyOK;kernel_rfl
theorem ty41:TyOK Tryz.prog 41 (.int .i64) 1 8 [.base (.int .i64 0)]:=by unfold TyOK;kernel_rfl
theorem ty45:TyOK Tryz.prog 45 (.sl 36) 1 24 [.nils]:=by unfold TyOK;kernel_rfl
theorem ty50:TyOK Tryz.prog 50 (.st [(0,4,36),(4,1,3)]) 5 40 [.base (.bool false),.base (.int .u64 0),.base (.int .u64 0),.base (.int .i64 0),.base (.int .i64 0)]:=by unfold TyOK;kernel_rfl
theorem ty51:TyOK Tryz.prog 51 (.st [(0,4,36),(4,1,3)]) 5 40 [.base (.bool false),.base (.int .u64 0),.base (.int .u64 0),.base (.int .i64 0),.base (.int .i64 0)]:=by unfold TyOK;kernel_rfl
theorem ty55:TyOK Tryz.prog 55 (.sl 9) 1 24 [.nils]:=by unfold TyOK;kernel_rfl
theorem ty62:TyOK Tryz.prog 62 (.st [(0,1,22),(1,1,3)]) 2 32 [.nils,.base (.int .i64 0)]:=by unfold TyOK;kernel_rfl
theorem ty63:TyOK Tryz.prog 63 (.st [(0,1,22),(1,1,3)]) 2 32 [.nils,.base (.int .i64 0)]:=by unfold TyOK;kernel_rfl
theorem ty64:TyOK Tryz.prog 64 (.st [(0,1,9),(1,1,22),(2,1,55)]) 3 64 [.base (.string ⟨#[]⟩),.nils,.nils]:=by unfold TyOK;kernel_rfl
theorem ty65:TyOK Tryz.prog 65 (.st [(0,1,9),(1,1,22),(2,1,55)]) 3 64 [.base (.string ⟨#[]⟩),.nils,.nils]:=by unfold TyOK;kernel_rfl
theorem ty73:TyOK Tryz.prog 73 (.sl 5) 1 24 [.nils]:=by unfold TyOK;kernel_rfl
theorem ty75:TyOK Tryz.prog 75 (.int .u64) 1 8 [.base (.int .u64 0)]:=by unfold TyOK;kernel_rfl
theorem ty80:TyOK Tryz.prog 80 (.sl 142) 1 24 [.nils]:=by unfold TyOK;kernel_rfl
theorem ty81:TyOK Tryz.prog 81 (.st [(0,4,36),(4,4,36),(8,1,80),(9,1,80)]) 10 112 [.base (.bool false),.base (.int .u64 0),.base (.int .u64 0),.base (.int .i64 0),.base (.bool false),.base (.int .u64 0),.base (.int .u64 0),.base (.int .i64 0),.nils,.nils]:=by unfold TyOK;kernel_rfl
theorem ty82:TyOK Tryz.prog 82 (.st [(0,4,36),(4,4,36),(8,1,80),(9,1,80)]) 10 112 [.base (.bool false),.base (.int .u64 0),.base (.int .u64 0),.base (.int .i64 0),.base (.bool false),.base (.int .u64 0),.base (.int .u64 0),.base (.int .i64 0),.nils,.nils]:=by unfold TyOK;kernel_rfl
theorem ty83:TyOK Tryz.prog 83 (.sl 106) 1 24 [.nils]:=by unfold TyOK;kernel_rfl
theorem ty84:TyOK Tryz.prog 84 (.sl 109) 1 24 [.nils]:=by unfold TyOK;kernel_rfl
theorem ty88:TyOK Tryz.prog 88 (.sl 4) 1 24 [.nils]:=by unfold TyOK;kernel_rfl
theorem ty89:TyOK Tryz.prog 89 (.sl 211) 1 24 [.nils]:=by unfold TyOK;kernel_rfl
theorem ty90:TyOK Tryz.prog 90 (.st [(0,1,3),(1,1,89),(2,1,88),(3,1,88)]) 4 80 [.base (.int .i64 0),.nils,.nils,.nils]:=by unfold TyOK;kernel_rfl
theorem ty91:TyOK Tryz.prog 91 (.st [(0,1,3),(1,1,89),(2,1,88),(3,1,88)]) 4 80 [.base (.int .i64 0),.nils,.nils,.nils]:=by unfold TyOK;kernel_rfl
theorem ty92:TyOK Tryz.prog 92 (.arr 6 5) 6 6 [.base (.int .u8 0),.base (.int .u8 0),.base (.int .u8 0),.base (.int .u8 0),.base (.int .u8 0),.base (.int .u8 0)]:=by unfold TyOK;kernel_rfl
theorem ty93:TyOK Tryz.prog 93 (.arr 6 5) 6 6 [.base (.int .u8 0),.base (.int .u8 0),.base (.int .u8 0),.base (.int .u8 0),.base (.int .u8 0),.base (.int .u8 0)]:=by unfold TyOK;kernel_rfl
theorem ty94:TyOK Tryz.prog 94 (.st [(0,6,93),(6,6,93),(12,1,3),(13,1,3),(14,1,73)]) 15 56 [.base (.int .u8 0),.base (.int .u8 0),.base (.int .u8 0),.base (.int .u8 0),.base (.int .u8 0),.base (.int .u8 0),.base (.int .u8 0),.base (.int .u8 0),.base (.int .u8 0),.base (.int .u8 0),.base (.int .u8 0),.base (.int .u8 0),.base (.int .i64 0),.base (.int .i64 0),.nils]:=by unfold TyOK;kernel_rfl
theorem ty95:TyOK Tryz.prog 95 (.st [(0,6,93),(6,6,93),(12,1,3),(13,1,3),(14,1,73)]) 15 56 [.base (.int .u8 0),.base (.int .u8 0),.base (.int .u8 0),.base (.int .u8 0),.base (.int .u8 0),.base (.int .u8 0),.base (.int .u8 0),.base (.int .u8 0),.base (.int .u8 0),.base (.int .u8 0),.base (.int .u8 0),.base (.int .u8 0),.base (.int .i64 0),.base (.int .i64 0),.nils]:=by unfold TyOK;kernel_rfl
theorem ty96:TyOK Tryz.prog 96 (.st [(0,1,3),(1,1,22),(2,15,95)]) 17 88 [.base (.int .i64 0),.nils,.base (.int .u8 0),.base (.int .u8 0),.base (.int .u8 0),.base (.int .u8 0),.base (.int .u8 0),.base (.int .u8 0),.base (.int .u8 0),.base (.int .u8 0),.base (.int .u8 0),.base (.int .u8 0),.base (.int .u8 0),.base (.int .u8 0),.base (.int .i64 0),.base (.int .i64 0),.nils]:=by unfold TyOK;kernel_rfl
theorem ty97:TyOK Tryz.prog 97 (.st [(0,1,3),(1,1,22),(2,15,95)]) 17 88 [.base (.int .i64 0),.nils,.base (.int .u8 0),.base (.int .u8 0),.base (.int .u8 0),.base (.int .u8 0),.base (.int .u8 0),.base (.int .u8 0),.base (.int .u8 0),.base (.int .u8 0),.base (.int .u8 0),.base (.int .u8 0),.base (.int .u8 0),.base (.int .u8 0),.base (.int .i64 0),.base (.int .i64 0),.nils]:=by unfold TyOK;kernel_rfl
theorem ty98:TyOK Tryz.prog 98 (.st [(0,1,3),(1,1,3),(2,1,3)]) 3 24 [.base (.int .i64 0),.base (.int .i64 0),.base (.int .i64 0)]:=by unfold TyOK;kernel_rfl
theorem ty99:TyOK Tryz.prog 99 (.st [(0,1,3),(1,1,3),(2,1,3)]) 3 24 [.base (.int .i64 0),.base (.int .i64 0),.base (.int .i64 0)]:=by unfold TyOK;kernel_rfl
theorem ty103:TyOK Tryz.prog 103 (.sl 93) 1 24 [.nils]:=by unfold TyOK;kernel_rfl
theorem ty104:TyOK Tryz.prog 104 (.sl 34) 1 24 [.nils]:=by unfold TyOK;kernel_rfl
theorem ty105:TyOK Tryz.prog 105 (.st [(0,1,3),(1,1,3),(2,1,3),(3,1,103),(4,1,104),(5,1,104),(6,1,3),(7,1,3)]) 8 112 [.base (.int .i64 0),.base (.int .i64 0),.base (.int .i64 0),.nils,.nils,.nils,.base (.int .i64 0),.base (.int .i64 0)]:=by unfold TyOK;kernel_rfl
theorem ty106:TyOK Tryz.prog 106 (.st [(0,1,3),(1,1,3),(2,1,3),(3,1,103),(4,1,104),(5,1,104),(6,1,3),(7,1,3)]) 8 112 [.base (.int .i64 0),.base (.int .i64 0),.base (.int .i64 0),.nils,.nils,.nils,.base (.int .i64 0),.base (.int .i64 0)]:=by unfold TyOK;kernel_rfl
theorem ty108:TyOK Tryz.prog 108 (.st [(0,3,34),(3,6,93),(9,1,3)]) 10 40 [.base (.bool false),.base (.int .u64 0),.base (.int .u64 0),.base (.int .u8 0),.base (.int .u8 0),.base (.int .u8 0),.base (.int .u8 0),.base (.int .u8 0),.base (.int .u8 0),.base (.int .i64 0)]:=by unfold TyOK;kernel_rfl
theorem ty109:TyOK Tryz.prog 109 (.st [(0,3,34),(3,6,93),(9,1,3)]) 10 40 [.base (.bool false),.base (.int .u64 0),.base (.int .u64 0),.base (.int .u8 0),.base (.int .u8 0),.base (.int .u8 0),.base (.int .u8 0),.base (.int .u8 0),.base (.int .u8 0),.base (.int .i64 0)]:=by unfold TyOK;kernel_rfl
theorem ty111:TyOK Tryz.prog 111 (.map 9 65) 1 8 [.base (.map none)]:=by unfold TyOK;kernel_rfl
theorem ty113:TyOK Tryz.prog 113 (.map 9 4) 1 8 [.base (.map none)]:=by unfold TyOK;kernel_rfl
theorem ty114:TyOK Tryz.prog 114 (.map 3 4) 1 8 [.base (.map none)]:=by unfold TyOK;kernel_rfl
theorem ty130:TyOK Tryz.prog 130 (.sl 32) 1 24 [.nils]:=by unfold TyOK;kernel_rfl
theorem ty138:TyOK Tryz.prog 138 (.sl 186) 1 24 [.nils]:=by unfold TyOK;kernel_rfl
theorem ty141:TyOK Tryz.prog 141 (.st [(0,1,3),(1,1,9),(2,1,9),(3,1,3),(4,1,3),(5,1,138)]) 6 80 [.base (.int .i64 0),.base (.string ⟨#[]⟩),.base (.string ⟨#[]⟩),.base (.int .i64 0),.base (.int .i64 0),.nils]:=by unfold TyOK;kernel_rfl
theorem ty142:TyOK Tryz.prog 142 (.st [(0,1,3),(1,1,9),(2,1,9),(3,1,3),(4,1,3),(5,1,138)]) 6 80 [.base (.int .i64 0),.base (.string ⟨#[]⟩),.base (.string ⟨#[]⟩),.base (.int .i64 0),.base (.int .i64 0),.nils]:=by unfold TyOK;kernel_rfl
theorem ty144:TyOK Tryz.prog 144 (.ptr 3) 1 8 [.base (.pointer none)]:=by unfold TyOK;kernel_rfl
theorem ty158:TyOK Tryz.prog 158 (.st [(0,1,3),(1,6,93),(7,3,34),(10,6,93),(16,3,34)]) 19 72 [.base (.int .i64 0),.base (.int .u8 0),.base (.int .u8 0),.base (.int .u8 0),.base (.int .u8 0),.base (.int .u8 0),.base (.int .u8 0),.base (.bool false),.base (.int .u64 0),.base (.int .u64 0),.base (.int .u8 0),.base (.int .u8 0),.base (.int .u8 0),.base (.int .u8 0),.base (.int .u8 0),.base (.int .u8 0),.base (.bool false),.base (.int .u64 0),.base (.int .u64 0)]:=by unfold TyOK;kernel_rfl
theorem ty159:TyOK Tryz.prog 159 (.st [(0,1,3),(1,6,93),(7,3,34),(10,6,93),(16,3,34)]) 19 72 [.base (.int .i64 0),.base (.int .u8 0),.base (.int .u8 0),.base (.int .u8 0),.base (.int .u8 0),.base (.int .u8 0),.base (.int .u8 0),.base (.bool false),.base (.int .u64 0),.base (.int .u64 0),.base (.int .u8 0),.base (.int .u8 0),.base (.int .u8 0),.base (.int .u8 0),.base (.int .u8 0),.base (.int .u8 0),.base (.bool false),.base (.int .u64 0),.base (.int .u64 0)]:=by unfold TyOK;kernel_rfl
theorem ty178:TyOK Tryz.prog 178 (.ptr 180) 1 8 [.base (.pointer none)]:=by unfold TyOK;kernel_rfl
theorem ty179:TyOK Tryz.prog 179 (.st [(0,1,55),(1,1,4)]) 2 32 [.nils,.base (.bool false)]:=by unfold TyOK;kernel_rfl
theorem ty180:TyOK Tryz.prog 180 (.st [(0,1,55),(1,1,4)]) 2 32 [.nils,.base (.bool false)]:=by unfold TyOK;kernel_rfl
theorem ty182:TyOK Tryz.prog 182 (.ptr 142) 1 8 [.base (.pointer none)]:=by unfold TyOK;kernel_rfl
theorem ty183:TyOK Tryz.prog 183 (.st [(0,10,82),(10,1,182)]) 11 120 [.base (.bool false),.base (.int .u64 0),.base (.int .u64 0),.base (.int .i64 0),.base (.bool false),.base (.int .u64 0),.base (.int .u64 0),.base (.int .i64 0),.nils,.nils,.base (.pointer none)]:=by unfold TyOK;kernel_rfl
theorem ty184:TyOK Tryz.prog 184 (.st [(0,10,82),(10,1,182)]) 11 120 [.base (.bool false),.base (.int .u64 0),.base (.int .u64 0),.base (.int .i64 0),.base (.bool false),.base (.int .u64 0),.base (.int .u64 0),.base (.int .i64 0),.nils,.nils,.base (.pointer none)]:=by unfold TyOK;kernel_rfl
theorem ty185:TyOK Tryz.prog 185 (.st [(0,1,3),(1,1,3),(2,1,3),(3,1,103),(4,3,34),(7,3,34)]) 10 96 [.base (.int .i64 0),.base (.int .i64 0),.base (.int .i64 0),.nils,.base (.bool false),.base (.int .u64 0),.base (.int .u64 0),.base (.bool false),.base (.int .u64 0),.base (.int .u64 0)]:=by unfold TyOK;kernel_rfl
theorem ty186:TyOK Tryz.prog 186 (.st [(0,1,3),(1,1,3),(2,1,3),(3,1,103),(4,3,34),(7,3,34)]) 10 96 [.base (.int .i64 0),.base (.int .i64 0),.base (.int .i64 0),.nils,.base (.bool false),.base (.int .u64 0),.base (.int .u64 0),.base (.bool false),.base (.int .u64 0),.base (.int .u64 0)]:=by unfold TyOK;kernel_rfl
theorem ty201:TyOK Tryz.prog 201 (.st [(0,3,34),(3,3,34),(6,1,3),(7,1,3),(8,1,73)]) 9 88 [.base (.bool false),.base (.int .u64 0),.base (.int .u64 0),.base (.bool false),.base (.int .u64 0),.base (.int .u64 0),.base (.int .i64 0),.base (.int .i64 0),.nils]:=by unfold TyOK;kernel_rfl
theorem ty202:TyOK Tryz.prog 202 (.st [(0,3,34),(3,3,34),(6,1,3),(7,1,3),(8,1,73)]) 9 88 [.base (.bool false),.base (.int .u64 0),.base (.int .u64 0),.base (.bool false),.base (.int .u64 0),.base (.int .u64 0),.base (.int .i64 0),.base (.int .i64 0),.nils]:=by unfold TyOK;kernel_rfl
theorem ty210:TyOK Tryz.prog 210 (.st [(0,1,3),(1,1,3),(2,1,3)]) 3 24 [.base (.int .i64 0),.base (.int .i64 0),.base (.int .i64 0)]:=by unfold TyOK;kernel_rfl
theorem ty211:TyOK Tryz.prog 211 (.st [(0,1,3),(1,1,3),(2,1,3)]) 3 24 [.base (.int .i64 0),.base (.int .i64 0),.base (.int .i64 0)]:=by unfold TyOK;kernel_rfl
theorem ty217:TyOK Tryz.prog 217 (.sl 73) 1 24 [.nils]:=by unfold TyOK;kernel_rfl
theorem ty230:TyOK Tryz.prog 230 (.ptr 232) 1 8 [.base (.pointer none)]:=by unfold TyOK;kernel_rfl
theorem ty231:TyOK Tryz.prog 231 (.st [(0,1,230),(1,1,73)]) 2 32 [.base (.pointer none),.nils]:=by unfold TyOK;kernel_rfl
theorem ty232:TyOK Tryz.prog 232 (.st [(0,1,230),(1,1,73)]) 2 32 [.base (.pointer none),.nils]:=by unfold TyOK;kernel_rfl
theorem ty246:TyOK Tryz.prog 246 (.ptr 184) 1 8 [.base (.pointer none)]:=by unfold TyOK;kernel_rfl
theorem ty248:TyOK Tryz.prog 248 (.ptr 80) 1 8 [.base (.pointer none)]:=by unfold TyOK;kernel_rfl
theorem ty257:TyOK Tryz.prog 257 (.map 93 4) 1 8 [.base (.map none)]:=by unfold TyOK;kernel_rfl
theorem ty258:TyOK Tryz.prog 258 (.map 34 4) 1 8 [.base (.map none)]:=by unfold TyOK;kernel_rfl
theorem ty268:TyOK Tryz.prog 268 (.st [(0,1,3),(1,1,3),(2,3,34),(5,1,4),(6,6,93)]) 12 48 [.base (.int .i64 0),.base (.int .i64 0),.base (.bool false),.base (.int .u64 0),.base (.int .u64 0),.base (.bool false),.base (.int .u8 0),.base (.int .u8 0),.base (.int .u8 0),.base (.int .u8 0),.base (.int .u8 0),.base (.int .u8 0)]:=by unfold TyOK;kernel_rfl
theorem ty269:TyOK Tryz.prog 269 (.st [(0,1,3),(1,1,3),(2,3,34),(5,1,4),(6,6,93)]) 12 48 [.base (.int .i64 0),.base (.int .i64 0),.base (.bool false),.base (.int .u64 0),.base (.int .u64 0),.base (.bool false),.base (.int .u8 0),.base (.int .u8 0),.base (.int .u8 0),.base (.int .u8 0),.base (.int .u8 0),.base (.int .u8 0)]:=by unfold TyOK;kernel_rfl
theorem ty286:TyOK Tryz.prog 286 (.int .i64) 1 8 [.base (.int .i64 0)]:=by unfold TyOK;kernel_rfl
theorem ty293:TyOK Tryz.prog 293 (.int .u32) 1 4 [.base (.int .u32 0)]:=by unfold TyOK;kernel_rfl
theorem ty312:TyOK Tryz.prog 312 (.ptr 5) 1 8 [.base (.pointer none)]:=by unfold TyOK;kernel_rfl
theorem ty334:TyOK Tryz.prog 334 (.arr 2 3) 2 16 [.base (.int .i64 0),.base (.int .i64 0)]:=by unfold TyOK;kernel_rfl
theorem ty335:TyOK Tryz.prog 335 (.arr 2 334) 4 32 [.base (.int .i64 0),.base (.int .i64 0),.base (.int .i64 0),.base (.int .i64 0)]:=by unfold TyOK;kernel_rfl
theorem ty342:TyOK Tryz.prog 342 (.ptr 338) 1 8 [.base (.pointer none)]:=by unfold TyOK;kernel_rfl
theorem ty343:TyOK Tryz.prog 343 (.int .u64) 1 8 [.base (.int .u64 0)]:=by unfold TyOK;kernel_rfl
theorem ty358:TyOK Tryz.prog 358 (.arr 8 32) 8 64 [.base (.int .u64 0),.base (.int .u64 0),.base (.int .u64 0),.base (.int .u64 0),.base (.int .u64 0),.base (.int .u64 0),.base (.int .u64 0),.base (.int .u64 0)]:=by unfold TyOK;kernel_rfl
theorem ty363:TyOK Tryz.prog 363 (.sl 80) 1 24 [.nils]:=by unfold TyOK;kernel_rfl
theorem ty376:TyOK Tryz.prog 376 (.int .u16) 1 2 [.base (.int .u16 0)]:=by unfold TyOK;kernel_rfl
theorem ty383:TyOK Tryz.prog 383 (.ptr 343) 1 8 [.base (.pointer none)]:=by unfold TyOK;kernel_rfl
theorem ty389:TyOK Tryz.prog 389 (.arr 24 5) 24 24 [.base (.int .u8 0),.base (.int .u8 0),.base (.int .u8 0),.base (.int .u8 0),.base (.int .u8 0),.base (.int .u8 0),.base (.int .u8 0),.base (.int .u8 0),.base (.int .u8 0),.base (.int .u8 0),.base (.int .u8 0),.base (.int .u8 0),.base (.int .u8 0),.base (.int .u8 0),.base (.int .u8 0),.base (.int .u8 0),.base (.int .u8 0),.base (.int .u8 0),.base (.int .u8 0),.base (.int .u8 0),.base (.int .u8 0),.base (.int .u8 0),.base (.int .u8 0),.base (.int .u8 0)]:=by unfold TyOK;kernel_rfl
theorem ty398:TyOK Tryz.prog 398 (.arr 20 32) 20 160 [.base (.int .u64 0),.base (.int .u64 0),.base (.int .u64 0),.base (.int .u64 0),.base (.int .u64 0),.base (.int .u64 0),.base (.int .u64 0),.base (.int .u64 0),.base (.int .u64 0),.base (.int .u64 0),.base (.int .u64 0),.base (.int .u64 0),.base (.int .u64 0),.base (.int .u64 0),.base (.int .u64 0),.base (.int .u64 0),.base (.int .u64 0),.base (.int .u64 0),.base (.int .u64 0),.base (.int .u64 0)]:=by unfold TyOK;kernel_rfl
theorem ty401:TyOK Tryz.prog 401 (.st [(0,1,5),(1,1,5)]) 2 2 [.base (.int .u8 0),.base (.int .u8 0)]:=by unfold TyOK;kernel_rfl
theorem ty402:TyOK Tryz.prog 402 (.st [(0,1,5),(1,1,5)]) 2 2 [.base (.int .u8 0),.base (.int .u8 0)]:=by unfold TyOK;kernel_rfl
theorem ty403:TyOK Tryz.prog 403 (.arr 16 402) 32 32 [.base (.int .u8 0),.base (.int .u8 0),.base (.int .u8 0),.base (.int .u8 0),.base (.int .u8 0),.base (.int .u8 0),.base (.int .u8 0),.base (.int .u8 0),.base (.int .u8 0),.base (.int .u8 0),.base (.int .u8 0),.base (.int .u8 0),.base (.int .u8 0),.base (.int .u8 0),.base (.int .u8 0),.base (.int .u8 0),.base (.int .u8 0),.base (.int .u8 0),.base (.int .u8 0),.base (.int .u8 0),.base (.int .u8 0),.base (.int .u8 0),.base (.int .u8 0),.base (.int .u8 0),.base (.int .u8 0),.base (.int .u8 0),.base (.int .u8 0),.base (.int .u8 0),.base (.int .u8 0),.base (.int .u8 0),.base (.int .u8 0),.base (.int .u8 0)]:=by unfold TyOK;kernel_rfl
theorem ty408:TyOK Tryz.prog 408 (.int .i64) 1 8 [.base (.int .i64 0)]:=by unfold TyOK;kernel_rfl
theorem ty411:TyOK Tryz.prog 411 (.ptr 418) 1 8 [.base (.pointer none)]:=by unfold TyOK;kernel_rfl
theorem ty420:TyOK Tryz.prog 420 (.arr 32 5) 32 32 [.base (.int .u8 0),.base (.int .u8 0),.base (.int .u8 0),.base (.int .u8 0),.base (.int .u8 0),.base (.int .u8 0),.base (.int .u8 0),.base (.int .u8 0),.base (.int .u8 0),.base (.int .u8 0),.base (.int .u8 0),.base (.int .u8 0),.base (.int .u8 0),.base (.int .u8 0),.base (.int .u8 0),.base (.int .u8 0),.base (.int .u8 0),.base (.int .u8 0),.base (.int .u8 0),.base (.int .u8 0),.base (.int .u8 0),.base (.int .u8 0),.base (.int .u8 0),.base (.int .u8 0),.base (.int .u8 0),.base (.int .u8 0),.base (.int .u8 0),.base (.int .u8 0),.base (.int .u8 0),.base (.int .u8 0),.base (.int .u8 0),.base (.int .u8 0)]:=by unfold TyOK;kernel_rfl
theorem ty421:TyOK Tryz.prog 421 (.arr 64 5) 64 64 [.base (.int .u8 0),.base (.int .u8 0),.base (.int .u8 0),.base (.int .u8 0),.base (.int .u8 0),.base (.int .u8 0),.base (.int .u8 0),.base (.int .u8 0),.base (.int .u8 0),.base (.int .u8 0),.base (.int .u8 0),.base (.int .u8 0),.base (.int .u8 0),.base (.int .u8 0),.base (.int .u8 0),.base (.int .u8 0),.base (.int .u8 0),.base (.int .u8 0),.base (.int .u8 0),.base (.int .u8 0),.base (.int .u8 0),.base (.int .u8 0),.base (.int .u8 0),.base (.int .u8 0),.base (.int .u8 0),.base (.int .u8 0),.base (.int .u8 0),.base (.int .u8 0),.base (.int .u8 0),.base (.int .u8 0),.base (.int .u8 0),.base (.int .u8 0),.base (.int .u8 0),.base (.int .u8 0),.base (.int .u8 0),.base (.int .u8 0),.base (.int .u8 0),.base (.int .u8 0),.base (.int .u8 0),.base (.int .u8 0),.base (.int .u8 0),.base (.int .u8 0),.base (.int .u8 0),.base (.int .u8 0),.base (.int .u8 0),.base (.int .u8 0),.base (.int .u8 0),.base (.int .u8 0),.base (.int .u8 0),.base (.int .u8 0),.base (.int .u8 0),.base (.int .u8 0),.base (.int .u8 0),.base (.int .u8 0),.base (.int .u8 0),.base (.int .u8 0),.base (.int .u8 0),.base (.int .u8 0),.base (.int .u8 0),.base (.int .u8 0),.base (.int .u8 0),.base (.int .u8 0),.base (.int .u8 0),.base (.int .u8 0)]:=by unfold TyOK;kernel_rfl
theorem ty423:TyOK Tryz.prog 423 (.ptr 425) 1 8 [.base (.pointer none)]:=by unfold TyOK;kernel_rfl
theorem ty424:TyOK Tryz.prog 424 (.st [(0,1,9)]) 1 16 [.base (.string ⟨#[]⟩)]:=by unfold TyOK;kernel_rfl
theorem ty425:TyOK Tryz.prog 425 (.st [(0,1,9)]) 1 16 [.base (.string ⟨#[]⟩)]:=by unfold TyOK;kernel_rfl
theorem ty426:TyOK Tryz.prog 426 (.st [(0,1,17),(1,1,17),(2,1,17),(3,1,9)]) 4 40 [.base (.pointer none),.base (.pointer none),.base (.pointer none),.base (.string ⟨#[]⟩)]:=by unfold TyOK;kernel_rfl
theorem ty427:TyOK Tryz.prog 427 (.st [(0,1,17),(1,1,17),(2,1,17),(3,1,9)]) 4 40 [.base (.pointer none),.base (.pointer none),.base (.pointer none),.base (.string ⟨#[]⟩)]:=by unfold TyOK;kernel_rfl
theorem ty428:TyOK Tryz.prog 428 (.arr 0 16) 0 0 []:=by unfold TyOK;kernel_rfl
theorem ty429:TyOK Tryz.prog 429 (.st [(0,0,428)]) 0 0 []:=by unfold TyOK;kernel_rfl
theorem ty430:TyOK Tryz.prog 430 (.st [(0,0,428)]) 0 0 []:=by unfold TyOK;kernel_rfl
theorem ty431:TyOK Tryz.prog 431 (.int .u8) 1 1 [.base (.int .u8 0)]:=by unfold TyOK;kernel_rfl
theorem ty432:TyOK Tryz.prog 432 (.int .u8) 1 1 [.base (.int .u8 0)]:=by unfold TyOK;kernel_rfl
theorem ty434:TyOK Tryz.prog 434 (.int .i32) 1 4 [.base (.int .i32 0)]:=by unfold TyOK;kernel_rfl
theorem ty435:TyOK Tryz.prog 435 (.int .i32) 1 4 [.base (.int .i32 0)]:=by unfold TyOK;kernel_rfl
theorem fok5:FnOK Tryz.prog 5:=⟨Tryz.f5,Tryz.func5,by kernel_rfl,by kernel_rfl⟩
theorem fok6:FnOK Tryz.prog 6:=⟨Tryz.f6,Tryz.func6,by kernel_rfl,by kernel_rfl⟩
theorem fok7:FnOK Tryz.prog 7:=⟨Tryz.f7,Tryz.func7,by kernel_rfl,by kernel_rfl⟩
theorem fok10:FnOK Tryz.prog 10:=⟨Tryz.f10,Tryz.func10,by kernel_rfl,by kernel_rfl⟩
theorem fok11:FnOK Tryz.prog 11:=⟨Tryz.f11,Tryz.func11,by kernel_rfl,by kernel_rfl⟩
theorem fok12:FnOK Tryz.prog 12:=⟨Tryz.f12,Tryz.func12,by kernel_rfl,by kernel_rfl⟩
theorem fok14:FnOK Tryz.prog 14:=⟨Tryz.f14,Tryz.func14,by kernel_rfl,by kernel_rfl⟩
theorem fok15:FnOK Tryz.prog 15:=⟨Tryz.f15,Tryz.func15,by kernel_rfl,by kernel_rfl⟩
theorem fok16:FnOK Tryz.prog 16:=⟨Tryz.f16,Tryz.func16,by kernel_rfl,by kernel_rfl⟩
theorem fok17:FnOK Tryz.prog 17:=⟨Tryz.f17,Tryz.func17,by kernel_rfl,by kernel_rfl⟩
theorem fok18:FnOK Tryz.prog 18:=⟨Tryz.f18,Tryz.func18,by kernel_rfl,by kernel_rfl⟩
theorem fok19:FnOK Tryz.prog 19:=⟨Tryz.f19,Tryz.func19,by kernel_rfl,by kernel_rfl⟩
theorem fok20:FnOK Tryz.prog 20:=⟨Tryz.f20,Tryz.func20,by kernel_rfl,by kernel_rfl⟩
theorem fok23:FnOK Tryz.prog 23:=⟨Tryz.f23,Tryz.func23,by kernel_rfl,by kernel_rfl⟩
theorem fok26:FnOK Tryz.prog 26:=⟨Tryz.f26,Tryz.func26,by kernel_rfl,by kernel_rfl⟩
theorem fok27:FnOK Tryz.prog 27:=⟨Tryz.f27,Tryz.func27,by kernel_rfl,by kernel_rfl⟩
theorem fok28:FnOK Tryz.prog 28:=⟨Tryz.f28,Tryz.func28,by kernel_rfl,by kernel_rfl⟩
theorem fok29:FnOK Tryz.prog 29:=⟨Tryz.f29,Tryz.func29,by kernel_rfl,by kernel_rfl⟩
theorem fok32:FnOK Tryz.prog 32:=⟨Tryz.f32,Tryz.func32,by kernel_rfl,by kernel_rfl⟩
theorem fok38:FnOK Tryz.prog 38:=⟨Tryz.f38,Tryz.func38,by kernel_rfl,by kernel_rfl⟩
theorem fok39:FnOK Tryz.prog 39:=⟨Tryz.f39,Tryz.func39,by kernel_rfl,by kernel_rfl⟩
theorem fok40:FnOK Tryz.prog 40:=⟨Tryz.f40,Tryz.func40,by kernel_rfl,by kernel_rfl⟩
theorem fok41:FnOK Tryz.prog 41:=⟨Tryz.f41,Tryz.func41,by kernel_rfl,by kernel_rfl⟩
theorem fok42:FnOK Tryz.prog 42:=⟨Tryz.f42,Tryz.func42,by kernel_rfl,by kernel_rfl⟩
theorem fok43:FnOK Tryz.prog 43:=⟨Tryz.f43,Tryz.func43,by kernel_rfl,by kernel_rfl⟩
theorem fok44:FnOK Tryz.prog 44:=⟨Tryz.f44,Tryz.func44,by kernel_rfl,by kernel_rfl⟩
theorem fok47:FnOK Tryz.prog 47:=⟨Tryz.f47,Tryz.func47,by kernel_rfl,by kernel_rfl⟩
theorem fok48:FnOK Tryz.prog 48:=⟨Tryz.f48,Tryz.func48,by kernel_rfl,by kernel_rfl⟩
theorem fok49:FnOK Tryz.prog 49:=⟨Tryz.f49,Tryz.func49,by kernel_rfl,by kernel_rfl⟩
theorem fok50:FnOK Tryz.prog 50:=⟨Tryz.f50,Tryz.func50,by kernel_rfl,by kernel_rfl⟩
theorem fok53:FnOK Tryz.prog 53:=⟨Tryz.f53,Tryz.func53,by kernel_rfl,by kernel_rfl⟩
theorem fok73:FnOK Tryz.prog 73:=⟨Tryz.f73,Tryz.func73,by kernel_rfl,by kernel_rfl⟩
theorem fok74:FnOK Tryz.prog 74:=⟨Tryz.f74,Tryz.func74,by kernel_rfl,by kernel_rfl⟩
theorem fok75:FnOK Tryz.prog 75:=⟨Tryz.f75,Tryz.func75,by kernel_rfl,by kernel_rfl⟩
theorem fok82:FnOK Tryz.prog 82:=⟨Tryz.f82,Tryz.func82,by kernel_rfl,by kernel_rfl⟩
theorem fok83:FnOK Tryz.prog 83:=⟨Tryz.f83,Tryz.func83,by kernel_rfl,by kernel_rfl⟩
theorem fok84:FnOK Tryz.prog 84:=⟨Tryz.f84,Tryz.func84,by kernel_rfl,by kernel_rfl⟩
theorem fok85:FnOK Tryz.prog 85:=⟨Tryz.f85,Tryz.func85,by kernel_rfl,by kernel_rfl⟩
theorem fok86:FnOK Tryz.prog 86:=⟨Tryz.f86,Tryz.func86,by kernel_rfl,by kernel_rfl⟩
theorem fok87:FnOK Tryz.prog 87:=⟨Tryz.f87,Tryz.func87,by kernel_rfl,by kernel_rfl⟩
theorem fok88:FnOK Tryz.prog 88:=⟨Tryz.f88,Tryz.func88,by kernel_rfl,by kernel_rfl⟩
theorem fok89:FnOK Tryz.prog 89:=⟨Tryz.f89,Tryz.func89,by kernel_rfl,by kernel_rfl⟩
theorem fok90:FnOK Tryz.prog 90:=⟨Tryz.f90,Tryz.func90,by kernel_rfl,by kernel_rfl⟩
theorem fok106:FnOK Tryz.prog 106:=⟨Tryz.f106,Tryz.func106,by kernel_rfl,by kernel_rfl⟩
theorem fok107:FnOK Tryz.prog 107:=⟨Tryz.f107,Tryz.func107,by kernel_rfl,by kernel_rfl⟩
theorem fok130:FnOK Tryz.prog 130:=⟨Tryz.f130,Tryz.func130,by kernel_rfl,by kernel_rfl⟩
theorem fok131:FnOK Tryz.prog 131:=⟨Tryz.f131,Tryz.func131,by kernel_rfl,by kernel_rfl⟩
theorem fok132:FnOK Tryz.prog 132:=⟨Tryz.f132,Tryz.func132,by kernel_rfl,by kernel_rfl⟩
theorem fok133:FnOK Tryz.prog 133:=⟨Tryz.f133,Tryz.func133,by kernel_rfl,by kernel_rfl⟩
theorem fok134:FnOK Tryz.prog 134:=⟨Tryz.f134,Tryz.func134,by kernel_rfl,by kernel_rfl⟩
theorem fok137:FnOK Tryz.prog 137:=⟨Tryz.f137,Tryz.func137,by kernel_rfl,by kernel_rfl⟩
theorem fok140:FnOK Tryz.prog 140:=⟨Tryz.f140,Tryz.func140,by kernel_rfl,by kernel_rfl⟩
theorem fok141:FnOK Tryz.prog 141:=⟨Tryz.f141,Tryz.func141,by kernel_rfl,by kernel_rfl⟩
theorem fok142:FnOK Tryz.prog 142:=⟨Tryz.f142,Tryz.func142,by kernel_rfl,by kernel_rfl⟩
theorem fok143:FnOK Tryz.prog 143:=⟨Tryz.f143,Tryz.func143,by kernel_rfl,by kernel_rfl⟩
theorem fok144:FnOK Tryz.prog 144:=⟨Tryz.f144,Tryz.func144,by kernel_rfl,by kernel_rfl⟩
theorem fok145:FnOK Tryz.prog 145:=⟨Tryz.f145,Tryz.func145,by kernel_rfl,by kernel_rfl⟩
theorem fok146:FnOK Tryz.prog 146:=⟨Tryz.f146,Tryz.func146,by kernel_rfl,by kernel_rfl⟩
theorem fok196:FnOK Tryz.prog 196:=⟨Tryz.f196,Tryz.func196,by kernel_rfl,by kernel_rfl⟩
theorem fok197:FnOK Tryz.prog 197:=⟨Tryz.f197,Tryz.func197,by kernel_rfl,by kernel_rfl⟩
theorem fok208:FnOK Tryz.prog 208:=⟨Tryz.f208,Tryz.func208,by kernel_rfl,by kernel_rfl⟩
theorem fok218:FnOK Tryz.prog 218:=⟨Tryz.f218,Tryz.func218,by kernel_rfl,by kernel_rfl⟩
theorem fok219:FnOK Tryz.prog 219:=⟨Tryz.f219,Tryz.func219,by kernel_rfl,by kernel_rfl⟩
theorem fok278:FnOK Tryz.prog 278:=⟨Tryz.f278,Tryz.func278,by kernel_rfl,by kernel_rfl⟩
theorem mixed:Tryz.prog.follows .mixedOrders=true:=by kernel_rfl
theorem tmod_pos (v n:Int) (hn:1≤n):-n < v.tmod n∧v.tmod n < n∧v % n=if v.tmod n < 0 then v.tmod n + n else v.tmod n:=by
 have h0:=Int.emod_nonneg v (show n≠0 by omega)
 have h1:=Int.emod_lt_of_pos v (show 0 < n by omega)
 rw [Int.tmod_eq_emod]
 have h3:(n.natAbs:Int)=n:=by omega
 split
 ·refine ⟨by omega,by omega,?_⟩
  rw [if_neg (by omega)];omega
 ·rename_i h
  have h2:v % n≠0:=fun e=>h (.inr (Int.dvd_of_emod_eq_zero e))
  refine ⟨by omega,by omega,?_⟩
  rw [if_pos (by omega)];omega
theorem mod_any (v n:Int) (hn:1≤n) (hn2:n≤9223372036854775807):AFn Tryz.prog 7 0 [.base (.int .i64 v),.base (.int .i64 n)] mt (.base (.int .i64 (v % n))) mt:=by
 refine AFn.eq Tryz.func7 rfl rfl (Nat.le_of_ble_eq_true rfl) ?_
 obtain ⟨h1,h2,h3⟩:=tmod_pos v n hn
 refine Wq<|qW 0 1 rfl<|qA rfl<|Nl<|Wq<|qW 5 9 rfl<|qM rfl<|qM rfl<|Od rfl rfl (LO.rem rfl rfl rfl (by omega))<|qA rfl<|Nl<|Wq<|Wq<|qW 13 15 rfl<|qM rfl<|qK rfl<|Nl<|W.cond rfl (fun hb=>?_) (fun hb=>?_)
 ·have hb:v.tmod n < 0:=of_decide_eq_true hb
  refine qW 19 23 rfl<|qM rfl<|qM rfl<|qZ rfl (iW _ (by omega))<|qA rfl<|Nl<|Wq<|qW 27 29 rfl<|qM rfl<|qA rfl<|Nl<|Wz ⟨.inl rfl,_,mt,Rc (Rt0 rfl) (Rv),aM,?_⟩
  exact ⟨by rw [h3,if_pos hb];rfl,rfl⟩
 ·have hb:¬ v.tmod n < 0:=of_decide_eq_false hb
  refine Wu<|Wq<|qW 27 29 rfl<|qM rfl<|qA rfl<|Nl<|Wz ⟨.inl rfl,_,mt,Rc (Rt0 rfl) (Rv),aM,?_⟩
  exact ⟨by rw [h3,if_neg hb];rfl,rfl⟩
def deckC (l:List Int) (at_:Nat):List AV:=[.isl (l.map fun z=>.base (.int .i64 z)) l.length,.base (.int .i64 (at_:Int))]
def nextV (l:List Int) (at_:Nat) (n:Int):Int:=if h:at_ < l.length then l[at_] % n else 0
def nextAt (l:List Int) (at_:Nat):Nat:=if at_ < l.length then at_ + 1 else at_
theorem next_any (l:List Int) (at_:Nat) (n:Int) (hn:1≤n) (hn2:n≤9223372036854775807) (hl:l.length≤9223372036854775807) :
 AFn Tryz.prog 12 1 [.own 0 0,.base (.int .i64 n)] (up mt 0 (some (deckC l at_))) (.base (.int .i64 (nextV l at_ n))) (up mt 0 (some (deckC l (nextAt l at_)))):=by
 refine AFn.eq Tryz.func12 rfl rfl (Nat.le_of_ble_eq_true rfl) ?_
 unfold deckC
 refine Wq<|qW 1 2 rfl<|qA rfl<|Nl<|Wq<|Wq<|Wd 6 16 (by decide) rfl mixed rfl<|qM rfl<|Od rfl rfl (Nc rfl rfl)<|qF rfl ty63 rfl<|qL rfl ty3 rfl<|qM rfl<|Od rfl rfl (Nc rfl rfl)<|qF rfl ty63 rfl<|qL rfl ty22 rfl<|qH rfl ty22<|qGe rfl<|Nl ⟨by kernel_rfl,(W.cond rfl (fun hb=>?_) (fun hb=>?_))⟩
 ·have hb:¬ at_ < l.length:=by have:=of_decide_eq_true hb;omega
  refine Wq<|qW 20 21 rfl<|qA rfl<|Nl<|Wz ⟨.inl rfl,_,up mt 0 (some (deckC l at_)),Rc (Rt0 rfl) Rv,aU rfl aM,?_⟩
  exact ⟨by unfold nextV;rw [dif_neg hb];rfl,by unfold nextAt deckC;rw [if_neg hb]⟩
 ·have hb:at_ < l.length:=by have:=of_decide_eq_false hb;omega
  refine Wu ?_
  have he:(at_:Int) + 1 - 1=(at_:Int):=by omega
  refine Wq<|qW 25 33 rfl<|qM rfl<|Od rfl rfl (Nc rfl rfl)<|qF rfl ty63 rfl<|qL rfl ty3 rfl<|qZ rfl (iW _ (by omega))<|Od rfl rfl (Nc rfl rfl)<|qF rfl ty63 rfl<|qS rfl ty3 (Sl rfl) rfl<|Nl ?_
  have hg:(l.map fun z=>AV.base (.int .i64 z))[at_ * 1]?=some (.base (.int .i64 l[at_])):=by simp [hb]
  refine Wq<|Wd 37 51 (by decide) rfl mixed rfl<|qM rfl<|Od rfl rfl (Nc rfl rfl)<|qF rfl ty63 rfl<|qL rfl ty22 rfl<|qM rfl<|Od rfl rfl (Nc rfl rfl)<|qF rfl ty63 rfl<|qL rfl ty3 rfl<|Od rfl rfl (LO.sub_in rfl rfl rfl (iW _ (by omega)))<|qJ rfl he ty22 ty3 (by omega)<|Od rfl rfl (Li rfl rfl hg ty3 rfl)<|qM rfl<|qY rfl (mod_any _ _ hn hn2) fok7 rfl<|qA rfl<|Nl ⟨by kernel_rfl,(Wz ⟨.inl rfl,_,up mt 0 (some (deckC l (at_ + 1))),Rc (Rt0 rfl) Rv,aU rfl aM,?_⟩)⟩
  exact ⟨by unfold nextV;rw [dif_pos hb];rfl,by unfold nextAt deckC;rw [if_pos hb]⟩
theorem new_any (l:List Int):AFn Tryz.prog 5 0 [.isl (l.map fun z=>.base (.int .i64 z)) l.length] mt (.own 0 0) (up mt 0 (some (deckC l 0))):=by
 refine AFn.eq Tryz.func5 rfl rfl (Nat.le_of_ble_eq_true rfl) ?_
 unfold deckC
 refine Wq<|qW 0 1 rfl<|qA rfl<|Nl<|Wq<|qW 5 9 rfl<|qM rfl<|Od rfl rfl (Bs rfl ty63 (.cons rfl rfl rfl rfl (Sl rfl) .nil))<|qC rfl<|qA rfl<|Nl<|W.rename [(0,7)] 1 (T':=up mt 2 (some (.own 0 0))) (H':=up mt 0 (some (deckC l 0))) (by decide) (aU (.inr ⟨rfl,fun _ h=>by cases h⟩) aM) (aU ⟨rfl,_,rfl,.inr ⟨rfl,rfl⟩⟩ aM) (Wz ⟨.inl rfl,_,up mt 0 (some (deckC l 0)),Rc (Rt0 rfl) Rv,aU rfl aM,?_⟩)
 exact ⟨rfl,rfl⟩
open Go.ChangeShapes Go.WideShapes Go.ChangeAt Go.RowKit
theorem Tryz.own:ownKnob Tryz.prog.godebug=none:=by kernel_rfl
theorem Tryz.laidOut:laidOutB Tryz.prog=true:=by kernel_rfl
theorem trodAll_stays {H:Type} {enc:TypeId × Value→H} {P:Program} (hl:laidOutB P=true) {W W':World} {sp':Nat→Bool} :
 ∀ {ts:List TypeId} {vs:List Value} {ds:List (DataW H)} {ps:List MemPlace},(∀ t∈ts,P.readableRec t=true∧t < P.types.size) →
  DataW.TrodAll enc P W 0 (fun _=>true) true ts vs ds ps→(∀ p∈ps,W.sameAt W' p)→(∀ p∈ps,sp' p.block=true)→DataW.TrodAll enc P W' 0 sp' true ts vs ds ps
 | [],[],[],_,_,h,_,_=>h
 | _::_,_::_,_::_,_,hT,⟨p,q,h1,h2,e⟩,hsame,hs =>
  ⟨p,q,WideElems.Trod_stays hl (hT _ (List.mem_cons.2 (Or.inl rfl))).1 (hT _ (List.mem_cons.2 (Or.inl rfl))).2 h1 (fun x hx=>hsame x (by rw [e];exact List.mem_append_left _ hx)) (fun x hx=>hs x (by rw [e];exact List.mem_append_left _ hx)),
   trodAll_stays hl (fun t ht=>hT t (List.mem_cons.2 (Or.inr ht))) h2 (fun x hx=>hsame x (by rw [e];exact List.mem_append_right _ hx)) (fun x hx=>hs x (by rw [e];exact List.mem_append_right _ hx)),e⟩
theorem law_post {H:Type} {enc:TypeId × Value→H} {P:Program} {f:Func} {s:ChangeSpec} {fresh handsOn again:Bool} {W W':World} {args:Array Value} {ds gs:List (DataW H)} {before:List MemPlace}
 (hl:laidOutB P=true) (hT:∀ t∈f.params.toList,P.readableRec t=true∧t < P.types.size) (tb:TypeId) (hb1:f.resultTypes=#[tb]) (hb2:P.underlying tb=some .bool) (hv:s.vars=[])
 (hW:DataW.Whole enc P f.params.toList s.vars false W args.toList ds gs before)
 (hs:(s.fn H (ds++gs)).results=[.lit (.bool true)]∧(s.fn H (ds++gs)).args=ds∧(s.fn H (ds++gs)).vars=[]) (hb:Below W.heap.size W W') :
 s.post enc P f false fresh handsOn again W args (.bool true) W':=by
 have hlt:∀ p∈before,p.block < W.heap.size:=fun p hp=>hW.lt p hp
 have hW0:=hW
 obtain ⟨p,q,hA,hV,rfl,hz,hn⟩:=hW
 rw [hv] at hV
 obtain ⟨rfl,rfl⟩:=trodVars_none hV
 have hsame:∀ x∈p,W.sameAt W' x:=fun x hx=>hb.same (hlt x (List.mem_append_left _ hx))
 have hres:∀ (b:Nat) (sp:Nat→Bool) (hd:Bool),DataW.TrodAll enc P W' b sp hd f.resultTypes.toList ((Value.bool true).resultList f.resultTypes.size) (s.fn H (ds++[])).results []:=by
  intro b sp hd
  rw [hb1,hs.1]
  exact trodAll_mk1 (shut_bool hb2 true)
 have hargs:∀ sp:Nat→Bool,(∀ x∈p++[],sp x.block=true)→DataW.TrodAll enc P W' 0 sp true f.params.toList args.toList (s.fn H (ds++[])).args p:=by
  intro sp hsp
  rw [hs.2.1]
  exact trodAll_stays hl hT hA hsame (fun x hx=>hsp x (List.mem_append_left _ hx))
 have hold:∀ x∈p++[],(fun b=>decide (b < W.heap.size)) x.block=true:=fun x hx=>by simpa using hlt x hx
 have hvs:∀ sp:Nat→Bool,DataW.TrodVars enc P W' sp s.vars (s.fn H (ds++[])).vars []:=by
  intro sp
  rw [hv,hs.2.2]
  simp [DataW.TrodVars]
 refine ⟨ds,[],p++[],[],p,[],hW0,hres _ _ _,hargs _ hold,hvs _,World.keptBut_mono (fun x hx=>⟨hx,?_⟩) (hb.frame (·∈p++[])),fun _=>?_⟩
 ·rw [List.mem_append] at hx
  exact Or.inr hx
 ·refine ⟨ok_one hb1 rfl (okWide_bool_mk hb2 true),_,_,([]++p)++[],⟨[]++p,[],trodAll_append (hargs _ (fun _ _=>rfl)) (hres _ _ _),hvs _,rfl,?_,?_⟩,?_⟩
  ·intro b off hp
   have hin:MemPlace.cell b off∈p++[]:=by simpa using hp
   rw [hb.frozen (hlt _ hin)]
   exact hz b off hin
  ·intro ha;cases ha
  ·intro x hx _
   simpa using hx
def accN (f:Nat→Int):Nat→Int
 | 0=>0
 | k + 1=>accN f k + (if k % 2=0 then f k * 256 else f k)
def foldS (n:Int):Int:=if n=0 then 0 else (n - 1) % 65535 + 1
def gB (bs:List Int) (k:Nat):Int:=bs.getD k 0
def accL (bs:List Int):Int:=accN (gB bs) bs.length
def sumL (bs:List Int):Int:=65535 - foldS (accL bs)
def IsB (bs:List Int):Prop:=∀ x∈bs,0≤x∧x≤255
theorem IsB.at {bs:List Int} (h:IsB bs) (k:Nat):0≤gB bs k∧gB bs k≤255:=by
 unfold gB
 by_cases hk:k < bs.length
 ·simp only [List.getD_eq_getElem?_getD,List.getElem?_eq_getElem hk,Option.getD_some]
  exact h _ (List.getElem_mem hk)
 ·simp [List.getElem?_eq_none (Nat.le_of_not_lt hk)]
theorem accN_bd (f:Nat→Int) (k:Nat) (h:∀ j,0≤f j∧f j≤255):0≤accN f k∧accN f k≤65280 * k:=by
 induction k with
 | zero=>simp [accN]
 | succ k ih =>
  have h2:=h k
  unfold accN
  split<;>omega
theorem foldS_small {n:Int} (h0:0≤n) (h:n≤65535):foldS n=n:=by
 unfold foldS;split<;>omega
theorem foldS_step {n:Int} (h:65535 < n):foldS (n / 65536 + n % 65536)=foldS n:=by
 unfold foldS;rw [if_neg (by omega),if_neg (by omega)];omega
structure Ad where
 v6:Bool
 hi:Int
 lo:Int
def validA (v6:Bool) (hi lo:Int):Bool:=v6 || (hi == 0 && decide (lo < 4294967296))
def fbStep (a:Int × Int) (x:Int):Int × Int:=(bits .or .u64 (IntKind.u64.wrap (a.1 * 256)) (a.2 / 72057594037927936),bits .or .u64 (IntKind.u64.wrap (a.2 * 256)) x)
def fb (bs:List Int):Int × Int:=bs.foldl fbStep (0,0)
theorem fb_snoc (bs:List Int) (k:Nat) (h:k < bs.length):fb (bs.take (k + 1))=fbStep (fb (bs.take k)) (gB bs k):=by
 unfold fb
 rw [List.take_succ_eq_append_getElem h,List.foldl_append]
 simp [gB,List.getD,h]
def U64 (x:Int):Prop:=0≤x∧x < 18446744073709551616
theorem u64_bits (op:BinOp) (x y:Int):U64 (bits op .u64 x y):=by
 have:=bounds_u64 (wf_bits op .u64 x y)
 unfold U64;omega
theorem fbStep_bd (a:Int × Int) (x:Int):U64 (fbStep a x).1∧U64 (fbStep a x).2:=by
 simp only [fbStep]
 exact ⟨u64_bits _ _ _,u64_bits _ _ _⟩
theorem fb_bd (bs:List Int):U64 (fb bs).1∧U64 (fb bs).2:=by
 unfold fb
 rw [← List.foldr_reverse]
 generalize bs.reverse=l
 cases l with
 | nil=>unfold U64;simp
 | cons x l =>
  simp only [List.foldr_cons]
  exact fbStep_bd _ _
def byteN (N:Int) (i:Nat):Int:=N / 256 ^ i % 256
def beN (n:Nat) (N:Int):List Int:=(List.range n).map fun p=>byteN N (n - 1 - p)
def addrB (v6:Bool) (hi lo:Int):List Int:=beN (if v6 then 16 else 4) (hi * 18446744073709551616 + lo)
theorem addrB_len (v6:Bool) (hi lo:Int):(addrB v6 hi lo).length=if v6 then 16 else 4:=by unfold addrB;simp [beN]
theorem byteN_bd (N:Int) (i:Nat):0≤byteN N i∧byteN N i≤255:=by unfold byteN;omega
theorem beN_len (n:Nat) (N:Int):(beN n N).length=n:=by simp [beN]
theorem beN_isB (n:Nat) (N:Int):IsB (beN n N):=by
 intro x hx
 simp only [beN,List.mem_map] at hx
 obtain ⟨p,_,rfl⟩:=hx
 exact byteN_bd _ _
theorem div_succ (N:Int) (j:Nat):N / 256 ^ (j + 1)=N / 256 ^ j / 256:=by
 rw [Int.pow_succ,Int.ediv_ediv_of_nonneg (Int.le_of_lt (Int.pow_pos (by decide)))]
def preB (n j:Nat) (N:Int):List Int:=(List.range j).map fun p=>byteN N (n - 1 - p)
theorem preB_len (n j:Nat) (N:Int):(preB n j N).length=j:=by simp [preB]
theorem preB_snoc (n j:Nat) (N:Int):preB n (j + 1) N=preB n j N++[byteN N (n - 1 - j)]:=by simp [preB,List.range_succ]
theorem byteN_at (hi lo:Int) (l1:0≤lo) (l2:lo < 18446744073709551616) (i:Nat) (h:i < 16) :
 (if 8≤i then hi else lo) / 2 ^ (8 * (i % 8)) % 256=byteN (hi * 18446744073709551616 + lo) i:=by
 unfold byteN
 obtain rfl|rfl|rfl|rfl|rfl|rfl|rfl|rfl|rfl|rfl|rfl|rfl|rfl|rfl|rfl|rfl:i=0∨i=1∨i=2∨i=3∨i=4∨i=5∨i=6∨i=7∨i=8∨i=9∨i=10∨i=11∨i=12∨i=13∨i=14∨i=15:=by omega
 all_goals (simp;try omega)
def hd4 (bs:List Int):Int:=gB bs 0 % 16 * 4
theorem u64_shl8 {a x:Int} (ha:U64 a) (hx:0≤x∧x≤255):bits .or .u64 (IntKind.u64.wrap (a * 256)) x=a % 72057594037927936 * 256 + x:=by
 have ha1:0≤a:=ha.1
 have e:IntKind.u64.wrap (a * 256)=a % 72057594037927936 * 256:=by rw [IntKind.wrap_u64];omega
 rw [e]
 obtain ⟨p,hp⟩:=Int.eq_ofNat_of_zero_le (show 0≤a % 72057594037927936 by omega)
 obtain ⟨q,hq⟩:=Int.eq_ofNat_of_zero_le hx.1
 rw [hp,hq]
 have hb1:(p:Int) * 256=((2 ^ 8 * p:Nat):Int):=by omega
 rw [hb1,u64_or_nat (2 ^ 8 * p) q (by omega) (by omega),← Nat.two_pow_add_eq_or_of_lt (i:=8) (by omega) p]
 omega
theorem fbStep_val {a:Int × Int} {x:Int} (h1:U64 a.1) (h2:U64 a.2) (hx:0≤x∧x≤255) :
 (fbStep a x).1 * 18446744073709551616 + (fbStep a x).2=((a.1 * 18446744073709551616 + a.2) * 256 + x) % 340282366920938463463374607431768211456:=by
 obtain ⟨h,l⟩:=a
 simp only at h1 h2
 have e1:(fbStep (h,l) x).1=h % 72057594037927936 * 256 + l / 72057594037927936:=u64_shl8 h1 (by unfold U64 at h2;omega)
 have e2:(fbStep (h,l) x).2=l % 72057594037927936 * 256 + x:=u64_shl8 h2 hx
 rw [e1,e2]
 unfold U64 at h1 h2
 simp only
 omega
theorem beN_take (n k:Nat) (N:Int) (h:k < n):gB (beN n N) k=byteN N (n - 1 - k):=by
 unfold gB beN
 simp [List.getD,h]
theorem pow_le_big {n:Nat} (h:n≤16):(256:Int) ^ n≤340282366920938463463374607431768211456:=by
 have:(256:Nat) ^ n≤256 ^ 16:=Nat.pow_le_pow_right (by omega) h
 have e:((256:Nat) ^ n:Int)=(256:Int) ^ n:=by simp
 omega
theorem fb_beN (n:Nat) (N:Int) (hn:n≤16) (h0:0≤N) (h1:N < 256 ^ n):∀ k,k≤n→(fb ((beN n N).take k)).1 * 18446744073709551616 + (fb ((beN n N).take k)).2=N / 256 ^ (n - k):=by
 have hb:=pow_le_big hn
 intro k
 induction k with
 | zero =>
  intro _
  simp [fb]
  rw [Int.ediv_eq_zero_of_lt h0 h1]
 | succ k ih =>
  intro hk
  have ihk:=ih (by omega)
  have hl:k < (beN n N).length:=by rw [beN_len];omega
  rw [fb_snoc _ _ hl]
  obtain ⟨b1,b2⟩:=fb_bd ((beN n N).take k)
  have hx:0≤gB (beN n N) k∧gB (beN n N) k≤255:=(beN_isB n N).at k
  rw [fbStep_val b1 b2 hx,ihk,beN_take n k N (by omega)]
  have e:n - k=(n - (k + 1)) + 1:=by omega
  have e2:n - 1 - k=n - (k + 1):=by omega
  rw [e,div_succ,e2]
  unfold byteN
  have hX0:0≤N / 256 ^ (n - (k + 1)):=Int.ediv_nonneg h0 (Int.le_of_lt (Int.pow_pos (by decide)))
  have hX1:N / 256 ^ (n - (k + 1))≤N:=Int.ediv_le_self _ h0
  generalize N / 256 ^ (n - (k + 1))=X at *
  omega
theorem fb_addrB {v6:Bool} {hi lo:Int} (hv:validA v6 hi lo=true) (h1:U64 hi) (h2:U64 lo):fb (addrB v6 hi lo)=(hi,lo):=by
 unfold U64 at h1 h2
 obtain ⟨b1,b2⟩:=fb_bd (addrB v6 hi lo)
 unfold U64 at b1 b2
 have hf:addrB v6 hi lo=beN (if v6 then 16 else 4) (hi * 18446744073709551616 + lo):=rfl
 rw [hf] at b1 b2 ⊢
 have key:(fb (beN (if v6 then 16 else 4) (hi * 18446744073709551616 + lo))).1 * 18446744073709551616 + (fb (beN (if v6 then 16 else 4) (hi * 18446744073709551616 + lo))).2=hi * 18446744073709551616 + lo:=by
  cases v6 with
  | true =>
   have hp:(256:Int) ^ 16=340282366920938463463374607431768211456:=by decide
   have:=fb_beN 16 (hi * 18446744073709551616 + lo) (by omega) (by omega) (by omega) 16 (by omega)
   rw [List.take_of_length_le (by rw [beN_len];omega)] at this
   simpa using this
  | false =>
   simp [validA] at hv
   have hp:(256:Int) ^ 4=4294967296:=by decide
   have:=fb_beN 4 (hi * 18446744073709551616 + lo) (by omega) (by omega) (by omega) 4 (by omega)
   rw [List.take_of_length_le (by rw [beN_len];omega)] at this
   simpa using this
 generalize fb (beN (if v6 then 16 else 4) (hi * 18446744073709551616 + lo))=r at *
 obtain ⟨x,y⟩:=r
 simp only at *
 have e1:x=hi:=by omega
 have e2:y=lo:=by omega
 rw [e1,e2]
def adC (a:Ad):List AV:=[.base (.bool a.v6),.base (.int .u64 a.hi),.base (.int .u64 a.lo)]
def bytesC (l:List Int):List AV:=l.map fun z=>.base (.int .u8 z)
theorem bytesC_pure (l:List Int):(bytesC l).all AV.pure1=true:=by
 induction l with
 | nil=>rfl
 | cons x l ih=>rw [show bytesC (x::l)=[.base (.int .u8 x)]++bytesC l from rfl,List.all_append,ih];rfl
theorem bytes_tk {l:List Int} {n:Nat} (h:l.length=n):Tk (bytesC l) 0 (n * 1) (bytesC l):=by
 have:=Tk.all (bytesC l)
 rwa [show (bytesC l).length=n * 1 from by simp [bytesC,h]] at this
theorem by_at {l:List Int} {k:Nat} (h:k < l.length):(bytesC l)[k * 1]?=some (.base (.int .u8 (gB l k))):=by simp [bytesC,gB,h]
theorem by_at0 {l:List Int} {k:Nat} (h:k < l.length):(bytesC l)[0 + k * 1]?=some (.base (.int .u8 (gB l k))):=by simp [bytesC,gB,h]
theorem bytesC_app (a b:List Int):bytesC (a++b)=bytesC a++bytesC b:=by simp [bytesC]
theorem bytesC_len (a:List Int):(bytesC a).length=a.length:=by simp [bytesC]
theorem avalid_any (a:Ad):AFn Tryz.prog 48 0 [.agg (adC a)] mt (.base (.bool (validA a.v6 a.hi a.lo))) mt:=by
 refine AFn.eq Tryz.func48 rfl rfl (Nat.le_of_ble_eq_true rfl) ?_
 unfold adC
 refine Wq<|qW 0 2 rfl<|qC rfl<|qA rfl<|Nl<|Wq<|qW 6 19 rfl<|qF rfl ty34 rfl<|qL rfl ty4 rfl<|qM rfl<|RW.split (t:=5) rfl (fun hb1=>?_) (fun hb1=>?_)
 ·
  try (have hb1p:=of_decide_eq_true hb1)
  try (have hb1q:=eq_of_beq hb1)
  refine qD rfl hb1 rfl<|qD rfl hb1 rfl<|qD rfl hb1 rfl<|qD rfl hb1 rfl<|Ud rfl rfl rfl rfl<|Ud rfl rfl rfl rfl<|Ud rfl rfl rfl rfl<|qD rfl hb1 rfl<|qT rfl hb1 rfl<|qA rfl<|Nl<|Wz ⟨.inl rfl,_,mt,Rc (Rt0 rfl) (Rv),aM,?_⟩
  exact ⟨by (simp_all [validA,retOf])<;>omega,rfl⟩
 ·
  try (have hb1p:=of_decide_eq_false hb1)
  try (have hb1q:=ne_of_beq_false hb1)
  refine gF rfl hb1 ty34 rfl<|gL rfl hb1 ty32 rfl<|gE rfl hb1<|gM rfl hb1<|RW.split (t:=9) rfl (fun hb2=>?_) (fun hb2=>?_)
  ·
   try (have hb2p:=of_decide_eq_true hb2)
   try (have hb2q:=eq_of_beq hb2)
   refine gF rfl hb2 ty34 rfl<|gL rfl hb2 ty32 rfl<|gK rfl hb2<|qU rfl hb1 rfl (Pt rfl rfl hb2 rfl)<|qP rfl hb1 rfl<|qA rfl<|Nl<|Wz ⟨.inl rfl,_,mt,Rc (Rt0 rfl) (Rv),aM,?_⟩
   exact ⟨by (simp_all [validA,retOf])<;>omega,rfl⟩
  ·
   try (have hb2p:=of_decide_eq_false hb2)
   try (have hb2q:=ne_of_beq_false hb2)
   refine qD rfl hb2 rfl<|qD rfl hb2 rfl<|qD rfl hb2 rfl<|qU rfl hb1 rfl (Pf0 rfl rfl hb2 rfl)<|qP rfl hb1 rfl<|qA rfl<|Nl<|Wz ⟨.inl rfl,_,mt,Rc (Rt0 rfl) (Rv),aM,?_⟩
   exact ⟨by (simp_all [validA,retOf])<;>omega,rfl⟩
theorem rvalid_any (a:Ad):AFn Tryz.prog 19 0 [.agg (adC a)] mt (.base (.bool (validA a.v6 a.hi a.lo))) mt:=by
 refine AFn.eq Tryz.func19 rfl rfl (Nat.le_of_ble_eq_true rfl) ?_
 unfold adC
 refine Wq<|qW 0 2 rfl<|qC rfl<|qA rfl<|Nl<|Wq<|qW 6 19 rfl<|qF rfl ty34 rfl<|qL rfl ty4 rfl<|qM rfl<|RW.split (t:=5) rfl (fun hb3=>?_) (fun hb3=>?_)
 ·
  try (have hb3p:=of_decide_eq_true hb3)
  try (have hb3q:=eq_of_beq hb3)
  refine qD rfl hb3 rfl<|qD rfl hb3 rfl<|qD rfl hb3 rfl<|qD rfl hb3 rfl<|Ud rfl rfl rfl rfl<|Ud rfl rfl rfl rfl<|Ud rfl rfl rfl rfl<|qD rfl hb3 rfl<|qT rfl hb3 rfl<|qA rfl<|Nl<|Wz ⟨.inl rfl,_,mt,Rc (Rt0 rfl) (Rv),aM,?_⟩
  exact ⟨by (simp_all [validA,retOf])<;>omega,rfl⟩
 ·
  try (have hb3p:=of_decide_eq_false hb3)
  try (have hb3q:=ne_of_beq_false hb3)
  refine gF rfl hb3 ty34 rfl<|gL rfl hb3 ty32 rfl<|gE rfl hb3<|gM rfl hb3<|RW.split (t:=9) rfl (fun hb4=>?_) (fun hb4=>?_)
  ·
   try (have hb4p:=of_decide_eq_true hb4)
   try (have hb4q:=eq_of_beq hb4)
   refine gF rfl hb4 ty34 rfl<|gL rfl hb4 ty32 rfl<|gK rfl hb4<|qU rfl hb3 rfl (Pt rfl rfl hb4 rfl)<|qP rfl hb3 rfl<|qA rfl<|Nl<|Wz ⟨.inl rfl,_,mt,Rc (Rt0 rfl) (Rv),aM,?_⟩
   exact ⟨by (simp_all [validA,retOf])<;>omega,rfl⟩
  ·
   try (have hb4p:=of_decide_eq_false hb4)
   try (have hb4q:=ne_of_beq_false hb4)
   refine qD rfl hb4 rfl<|qD rfl hb4 rfl<|qD rfl hb4 rfl<|qU rfl hb3 rfl (Pf0 rfl rfl hb4 rfl)<|qP rfl hb3 rfl<|qA rfl<|Nl<|Wz ⟨.inl rfl,_,mt,Rc (Rt0 rfl) (Rv),aM,?_⟩
   exact ⟨by (simp_all [validA,retOf])<;>omega,rfl⟩
structure Prt where
 id:Int
 sw:Int
 speed:Int
 macs:List (List Int)
 v4:Ad
 v6:Ad
structure Mem where
 asn:Int
 name:ByteArray
 set:ByteArray
 max4:Int
 max6:Int
 ports:List Prt
structure Pre where
 ad:Ad
 len:Int
structure Db where
 lan4:Pre
 lan6:Pre
 servers:List Mem
 members:List Mem
def macsC (l:List (List Int)):List AV:=l.flatMap bytesC
def prtC (p:Prt):List AV:=[.base (.int .i64 p.id),.base (.int .i64 p.sw),.base (.int .i64 p.speed),.isl (macsC p.macs) p.macs.length]++adC p.v4++adC p.v6
def prtsC (l:List Prt):List AV:=l.flatMap prtC
def memC (m:Mem):List AV:=[.base (.int .i64 m.asn),.base (.string m.name),.base (.string m.set),.base (.int .i64 m.max4),.base (.int .i64 m.max6),.isl (prtsC m.ports) m.ports.length]
def memsC (l:List Mem):List AV:=l.flatMap memC
def preC (p:Pre):List AV:=adC p.ad++[.base (.int .i64 p.len)]
def dbC (d:Db):List AV:=preC d.lan4++preC d.lan6++[.isl (memsC d.servers) d.servers.length,.isl (memsC d.members) d.members.length]
theorem flat_tk {α:Type} {c:α→List AV} {n:Nat} (hc:∀ x,(c x).length=n) {l:List α} {k:Nat} (h:k < l.length):Tk (l.flatMap c) (k * n) n (c l[k]):=by
 refine ⟨hc _,fun j d hj=>?_⟩
 have hjn:j < n:=by have:=(List.getElem?_eq_some_iff.1 hj).1;rwa [hc] at this
 induction l generalizing k with
 | nil=>simp at h
 | cons x l ih =>
  rw [List.flatMap_cons]
  cases k with
  | zero =>
   rw [Nat.zero_mul,Nat.zero_add,List.getElem?_append_left (by rw [hc];exact hjn)]
   simpa using hj
  | succ k =>
   rw [show (k + 1) * n + j=n + (k * n + j) from by rw [Nat.succ_mul];omega]
   rw [List.getElem?_append_right (by rw [hc];omega),hc,show n + (k * n + j) - n=k * n + j from by omega]
   exact ih (by simpa using h) (by simpa using hj)
theorem prts_tk {l:List Prt} {k:Nat} (h:k < l.length):Tk (prtsC l) (k * 10) 10 (prtC l[k]):=flat_tk (c:=prtC) (fun _=>rfl) h
theorem mems_tk {l:List Mem} {k:Nat} (h:k < l.length):Tk (memsC l) (k * 6) 6 (memC l[k]):=flat_tk (c:=memC) (fun _=>rfl) h
end Go.Proofs.YtndbhhgmpjjjhaaGreatDoor
namespace Go.Proofs.YtndbhhgmpjjjhaaGreatDoor
open Go.RowKit
theorem rep_bases {X:Nat→Prop} {w:World} {φ:Em} {v:Value} {us:List Value} (h:Rep X w φ v (.agg (us.map AV.base))):v=.agg us.toArray:=by
 cases h with
 | agg vs _ hl h1 h =>
  have hl2:vs.size=us.length:=by simpa using hl
  congr 1
  refine Array.ext (by simpa using hl2) fun i h2 h3=>?_
  have h4:i < us.length:=by simpa using h3
  have:=h i vs[i] (.base us[i]) (by simp [h2]) (by simp [h4])
  simpa using this.base_eq
theorem LO.eq_bases {P:Program} {o:Oper} {E:Operand→Option AV} {H:Hp} {f:Nat} {t ty:TypeId} {x y:Operand} {r:Bool} (neg:Bool) (us vs:List Value) {xs ys:List AV} (ho:o.op=.binOp (if neg then .neq else .eql) t x y ty) (hx:E x=some (.agg xs)) (hy:E y=some (.agg ys)) (e1:xs=us.map AV.base) (e2:ys=vs.map AV.base)
 (hg:∀ w,(eqGuard (if neg then .neq else .eql) t x y (.agg us.toArray) (.agg vs.toArray)).run P w=.ok () w) (h:∀ w,(Op.equal t (.agg us.toArray) (.agg vs.toArray)).run P w=.ok r w):LO P o E H f [] [] (.base (.bool (if neg then !r else r))) H:=by
 subst e1 e2
 refine .pure fun X φ w ρ hR=>?_
 have h1:=rep_bases (hR x (by simp [ho,Op.operands]) _ hx)
 have h2:=rep_bases (hR y (by simp [ho,Op.operands]) _ hy)
 refine ⟨.bool (if neg then !r else r),?_,.base _⟩
 cases neg
 ·have hg2:=hg w
  simp only [Bool.false_eq_true,if_false] at hg2 ho
  simp [execOp,ho,h1,h2,hg2,Go.binOp,h]
 ·have hg2:=hg w
  simp only [if_true] at hg2 ho
  simp [execOp,ho,h1,h2,hg2,Go.binOp,h]
theorem guard_run {t:TypeId} {us vs:Array Value} (x y:Operand) (b:Bool) (h:Tryz.prog.eqGuardType Tryz.prog.depth t=false) (w:World):(eqGuard (if b then .neq else .eql) t x y (.agg us) (.agg vs)).run Tryz.prog w=.ok () w:=by
 cases b<;>simp [eqGuard,h]
def eqA (a b:Ad):Bool:=a.v6 == b.v6 && (a.hi == b.hi && a.lo == b.lo)
theorem eqAd_in (d:Nat) (a b:Ad) (w:World):(Op.equalIn (d + 2) 34 (.agg #[.bool a.v6,.int .u64 a.hi,.int .u64 a.lo]) (.agg #[.bool b.v6,.int .u64 b.hi,.int .u64 b.lo])).run Tryz.prog w=.ok (eqA a b) w:=by
 rw [run_equalIn_struct w (d + 1) 34 _ _ (by kernel_rfl) (by kernel_rfl)]
 have hu:=Tryz.underlying34
 have hb:=Tryz.underlying4
 have hi:=Tryz.underlying32
 simp [Program.fieldsOf,hu,Op.eqFields,part,isAgg,run_underlying hb,run_underlying hi,run_equalIn_bool' _ _ _ _ _ hb,run_equalIn_int _ _ _ _ _ _ _ hi]
 unfold eqA
 by_cases h1:a.v6=b.v6<;>by_cases h2:a.hi=b.hi<;>by_cases h3:a.lo=b.lo<;>simp [h1,h2,h3]
theorem eqMac_in (d:Nat) {a b:List Int} (ha:a.length=6) (hb:b.length=6) (w:World):(Op.equalIn (d + 2) 93 (.agg (a.map (Value.int .u8)).toArray) (.agg (b.map (Value.int .u8)).toArray)).run Tryz.prog w=.ok (decide (a=b)) w:=by
 have hu:=Tryz.underlying93
 have hi:=Tryz.underlying5
 match a,ha,b,hb with
 | [a0,a1,a2,a3,a4,a5],_,[b0,b1,b2,b3,b4,b5],_ =>
  have hsz:∀ w:World,(sizeOf 5).run Tryz.prog w=.ok 1 w:=fun w=>(ty5).sizeOf w
  unfold Op.equalIn
  simp [run_underlying hu,hsz,part,isAgg,run_underlying hi,run_equalIn_int _ _ _ _ _ _ _ hi,Std.Legacy.Range.forIn_eq_forIn_range',Std.Legacy.Range.size,List.range'_succ]
  by_cases h0:a0=b0<;>by_cases h1:a1=b1<;>by_cases h2:a2=b2<;>by_cases h3:a3=b3<;>by_cases h4:a4=b4<;>by_cases h5:a5=b5<;>simp [h0,h1,h2,h3,h4,h5]
section
variable {o:Oper} {E:Operand→Option AV} {H:Hp} {f:Nat} {ty:TypeId} {x y:Operand}
theorem LO.eql_ad (a b:Ad) (ho:o.op=.binOp .eql 34 x y ty) (hx:E x=some (.agg (adC a))) (hy:E y=some (.agg (adC b))):LO Tryz.prog o E H f [] [] (.base (.bool (eqA a b))) H :=
 LO.eq_bases false [.bool a.v6,.int .u64 a.hi,.int .u64 a.lo] [.bool b.v6,.int .u64 b.hi,.int .u64 b.lo] ho hx hy rfl rfl (guard_run x y false (by kernel_rfl)) (eqAd_in 9998 a b)
end
end Go.Proofs.YtndbhhgmpjjjhaaGreatDoor
namespace Go.Proofs.YtndbhhgmpjjjhaaGreatDoor
open Go.RowKit
def zAd:Ad:=⟨false,0,0⟩
end Go.Proofs.YtndbhhgmpjjjhaaGreatDoor
namespace Go.Proofs.YtndbhhgmpjjjhaaGreatDoor
open Go.RowKit
theorem i64_and {n:Int} (h0:0≤n) (h1:n < 9223372036854775808):bitV .and .i64 n 65535=n % 65536:=by
 obtain ⟨k,rfl⟩:=Int.eq_ofNat_of_zero_le h0
 have e1:(BitVec.ofInt IntKind.i64.bits (k:Int) &&& BitVec.ofInt IntKind.i64.bits 65535).toNat=k % 65536:=by
  rw [BitVec.toNat_and]
  have a1:(BitVec.ofInt IntKind.i64.bits (k:Int)).toNat=k:=by
   simp only [BitVec.toNat_ofInt,IntKind.bits];omega
  have a2:(BitVec.ofInt IntKind.i64.bits (65535:Int)).toNat=2 ^ 16 - 1:=by decide
  rw [a1,a2,Nat.and_two_pow_sub_one_eq_mod]
 show IntKind.i64.wrap ((BitVec.ofInt IntKind.i64.bits (k:Int) &&& BitVec.ofInt IntKind.i64.bits 65535).toNat:Nat)=_
 rw [e1,IntWalk.i64_in _ (by omega)]
 omega
theorem fb_one (p:Int × Int) (x:Int):bitV .or .u64 (IntKind.u64.wrap (p.1 * 2 ^ (min (8:Int).toNat IntKind.u64.bits))) (p.2.fdiv (2 ^ (min (56:Int).toNat IntKind.u64.bits)))=(fbStep p x).1:=by
 rw [show (2:Int) ^ (min (56:Int).toNat IntKind.u64.bits)=72057594037927936 from by decide,Int.fdiv_eq_ediv_of_nonneg _ (by decide)]
 rfl
theorem sum_any (l:List Int) (hB:IsB l) (hl:l.length≤1000000):AFn Tryz.prog 308 0 [.isl (bytesC l) l.length] mt (.base (.int .u16 (sumL l))) mt:=by
 refine AFn.eq Tryz.func308 rfl rfl (Nat.le_of_ble_eq_true rfl)<|Wq<|qW 0 1 rfl<|qA rfl<|Nl<|Wq<|qW 5 6 rfl<|qA rfl<|Nl<|Wq<|Wq<|qW 10 13 rfl<|qM rfl<|qH rfl ty73<|qM rfl<|Nl<|Wb<|W.loop_keep (α:=Nat) (fun x=>l.length - x) 0 (fun x=>[(3,.base (.int .i64 (accN (gB l) x))),(8,.base (.int .i64 (x:Int)))]) (fun x=>mt) (fun x=>x≤l.length) 0 [] (.cons (t:=6) rfl (by exact .inl rfl) (.cons (t:=7) rfl (by exact .inl rfl) .nil)) (show 0≤l.length from Nat.zero_le _) (by decide) ?_ ?_ ?_
 ·exact lC (lR rfl) (lC (lR rfl) lN)
 ·exact aM
 rintro i hIA ihA
 try (dsimp only at hIA)
 try dsimp only [baseT,List.cons_append,List.nil_append]
 have hbd:=accN_bd (gB l) i (fun j=>hB.at j)
 by_cases hc:i < l.length
 ·have g1:decide ((i:Int) < (l.length:Int))=true:=decide_eq_true (by omega)
  have hx:=hB.at i
  have hs:accN (gB l) (i + 1)=accN (gB l) i + (if i % 2=0 then gB l i * 256 else gB l i):=rfl
  obtain ⟨x,hxe⟩:∃ x,gB l i=x:=⟨_,rfl⟩
  have hat:=by_at hc
  rw [hxe] at hx hs hat
  have hsh:IntKind.i64.wrap (x * 2 ^ (min (8:Int).toNat IntKind.i64.bits))=x * 256:=by
   rw [show (2:Int) ^ (min (8:Int).toNat IntKind.i64.bits)=256 from by decide];exact IntWalk.i64_in _ (by omega)
  refine Wq<|qW 17 18 rfl<|qK rfl<|Nl<|Wq<|Wt rfl ‹_›<|Wu<|Wq<|Wb<|Wq<|qW 22 27 rfl<|qM rfl<|qJ rfl rfl ty73 ty5 (by omega)<|Od rfl rfl (Li rfl rfl hat ty5 rfl)<|qA rfl<|qA rfl<|Nl ?_
  by_cases hev:i % 2=0
  ·have g2:((i:Int) % 2 == 0)=true:=by simp;omega
   rw [if_pos hev] at hs
   refine Wq<|qW 31 34 rfl<|qM rfl<|Od rfl rfl (LO.rem_in rfl rfl rfl (by omega) (by omega))<|qE rfl<|Nl<|Wt rfl ‹_›<|qW 38 44 rfl<|qM rfl<|qM rfl<|Od rfl rfl (Ci rfl rfl ty5 ty3 (iW _ (by omega)))<|Od rfl rfl (LO.shl rfl rfl rfl (by omega)) ?_
   rw [hsh]
   refine qZ rfl (iW _ (by omega))<|qA rfl<|Nl ?_
   rw [← hs]
   refine qW 57 59 rfl<|qZ rfl (iW _ (by omega))<|qM rfl<|Nl<|WL.renameL [] 0 (by decide) ?_ ?_ (ihA (i + 1) (show l.length - (i + 1) < l.length - i from by omega) (show (i + 1)≤l.length from by omega))
   ·exact lC (lR rfl) (lC (lR rfl) (lC (lR rfl) (lC (lR rfl) lN)))
   ·exact aM
  ·have g2:((i:Int) % 2 == 0)=false:=by simp;omega
   rw [if_neg hev] at hs
   refine Wq<|qW 31 34 rfl<|qM rfl<|Od rfl rfl (LO.rem_in rfl rfl rfl (by omega) (by omega))<|qE rfl<|Nl<|Wo rfl ‹_›<|qW 48 53 rfl<|qM rfl<|qM rfl<|Od rfl rfl (Ci rfl rfl ty5 ty3 (iW _ (by omega)))<|qZ rfl (iW _ (by omega))<|qA rfl<|Nl ?_
   rw [← hs]
   refine qW 57 59 rfl<|qZ rfl (iW _ (by omega))<|qM rfl<|Nl<|WL.renameL [] 0 (by decide) ?_ ?_ (ihA (i + 1) (show l.length - (i + 1) < l.length - i from by omega) (show (i + 1)≤l.length from by omega))
   ·exact lC (lR rfl) (lC (lR rfl) (lC (lR rfl) (lC (lR rfl) lN)))
   ·exact aM
 ·have g1:decide ((i:Int) < (l.length:Int))=false:=decide_eq_false (by omega)
  refine Wq<|qW 17 18 rfl<|qK rfl<|Nl<|Wq<|Wo rfl ‹_›<|Wx ?_
  obtain rfl:i=l.length:=by omega
  clear ihA
  refine Wq<|Wb<|W.loop_keep (α:=Int) (fun x=>x.toNat) 0 (fun x=>[(3,.base (.int .i64 x))]) (fun x=>mt) (fun x=>(0≤x∧x≤65280000000)∧foldS x=foldS (accL l)) (accN (gB l) l.length) [] .nil (show (0≤(accN (gB l) l.length)∧(accN (gB l) l.length)≤65280000000)∧foldS (accN (gB l) l.length)=foldS (accL l) from ⟨by omega,rfl⟩) (by decide) ?_ ?_ ?_
  ·exact lC (lR rfl) lN
  ·exact aM
  rintro n hIB ihB
  try (dsimp only at hIB)
  try dsimp only [baseT,List.cons_append,List.nil_append]
  obtain ⟨hn,hf⟩:=hIB
  by_cases hbig:65535 < n
  ·have g3:decide (n > 65535)=true:=decide_eq_true hbig
   have h1:n.fdiv (2 ^ (min (16:Int).toNat IntKind.i64.bits))=n / 65536:=by
    rw [show (2:Int) ^ (min (16:Int).toNat IntKind.i64.bits)=65536 from by decide];exact Int.fdiv_eq_ediv_of_nonneg _ (by decide)
   have h2:bitV .and .i64 n 65535=n % 65536:=i64_and hn.1 (by omega)
   refine Wq<|Wq<|qW 63 65 rfl<|qM rfl<|qGt rfl<|Nl<|Wt rfl ‹_›<|Wu<|Wb<|qW 69 75 rfl<|qM rfl<|Od rfl rfl (LO.shr rfl rfl rfl (by omega))<|qM rfl<|Od rfl rfl (LO.and rfl rfl rfl) ?_
   rw [h1,h2]
   refine qZ rfl (iW _ (by omega))<|qA rfl<|Nl<|WL.renameL [] 0 (by decide) ?_ ?_ (ihB (n / 65536 + n % 65536) (show (n / 65536 + n % 65536).toNat < n.toNat from by omega) (show (0≤(n / 65536 + n % 65536)∧(n / 65536 + n % 65536)≤65280000000)∧foldS (n / 65536 + n % 65536)=foldS (accL l) from ⟨by omega,by rw [foldS_step hbig];exact hf⟩))
   ·exact lC (lR rfl) lN
   ·exact aM
  ·have g3:decide (n > 65535)=false:=decide_eq_false hbig
   refine Wq<|Wq<|qW 63 65 rfl<|qM rfl<|qGt rfl<|Nl<|Wo rfl ‹_›<|Wx<|Wq<|qW 79 83 rfl<|qM rfl<|Od rfl rfl (LO.sub_in rfl rfl rfl (iW _ (by omega)))<|Od rfl rfl (Ci rfl rfl ty3 ty376 (IntWalk.u16_in _ (by omega)))<|qA rfl<|Nl<|Wz ⟨.inl rfl,_,mt,Rc (Rt0 rfl) (Rv),aM,?_⟩
   refine ⟨?_,rfl⟩
   rw [foldS_small hn.1 (by omega)] at hf
   show AV.base (.int .u16 (65535 - n))=_
   rw [hf];rfl
theorem from_any (l:List Int) (hB:IsB l) (hn:l.length=4∨l.length=16):AFn Tryz.prog 250 0 [.isl (bytesC l) l.length] mt (.tup [.agg (adC ⟨(l.length:Int) == 16,(fb l).1,(fb l).2⟩),.base (.int .i64 0)]) mt:=by
 refine AFn.eq Tryz.func250 rfl rfl (Nat.le_of_ble_eq_true rfl)<|Wq<|qW 0 2 rfl<|qB rfl ty34<|qA rfl<|Nl ?_
 have key:((l.length:Int) != 4)=false∨(((l.length:Int) != 4)=true∧((l.length:Int) != 16)=false):=by
  rcases hn with h|h
  ·exact .inl (by rw [h];rfl)
  ·exact .inr ⟨by rw [h];rfl,by rw [h];rfl⟩
 rcases key with g1|⟨g1,g2⟩
 case' inl =>
  refine Wq<|Wq<|qW 6 14 rfl<|qM rfl<|qH rfl ty73<|qN rfl<|qM rfl<|qD rfl ‹_› rfl<|qD rfl ‹_› rfl<|qD rfl ‹_› rfl<|qP rfl ‹_› rfl<|Nl ?_
 case' inr =>
  refine Wq<|Wq<|qW 6 14 rfl<|qM rfl<|qH rfl ty73<|qN rfl<|qM rfl<|gM rfl ‹_›<|gH rfl ‹_› ty73<|gN rfl ‹_›<|qT rfl ‹_› rfl<|Nl ?_
 all_goals
  refine Wo rfl (by first|rfl|assumption)<|Wu ?_
  repeat (refine Wq ?_)
  refine qW 25 31 rfl<|qM rfl<|qH rfl ty73<|qE rfl<|Od rfl rfl (Bs rfl ty34 (.cons rfl rfl rfl rfl (Sl rfl) .nil))<|qB rfl ty34<|qS rfl ty34 (Sl rfl) rfl<|Nl ?_
  repeat (refine Wq ?_)
  refine qW 35 38 rfl<|qM rfl<|qH rfl ty73<|qM rfl<|Nl<|Wb<|W.loop_keep (α:=Nat) (fun x=>l.length - x) 2 (fun x=>[(2,.own 0 0),(4,.own 1 0),(22,.base (.int .i64 (x:Int)))]) (fun x=>up (up mt 0 (some (adC zAd))) 1 (some (adC ⟨(l.length:Int) == 16,(fb (l.take x)).1,(fb (l.take x)).2⟩))) (fun x=>x≤l.length) 0 [(0,0),(1,29)] (.cons (t:=20) rfl (by exact .inl rfl) (.cons (t:=21) rfl (by exact .inl rfl) .nil)) (show 0≤l.length from Nat.zero_le _) (by decide) ?_ ?_ ?_
  ·exact lC (lI rfl) (lC (lI rfl) (lC (lR rfl) lN))
  ·exact aU (kR rfl) (aU (kR rfl) aM)
  rintro i hIA ihA
  try (dsimp only at hIA)
  try dsimp only [baseT,List.cons_append,List.nil_append]
  by_cases hc:i < l.length
  ·have g5:decide ((i:Int) < (l.length:Int))=true:=decide_eq_true (by omega)
   have hs:=fb_snoc l i hc
   have hx:=hB.at i
   obtain ⟨x,hxe⟩:∃ x,gB l i=x:=⟨_,rfl⟩
   have hat:=by_at hc
   rw [hxe] at hs hx hat
   obtain ⟨p,hp⟩:∃ p,fb (l.take i)=p:=⟨_,rfl⟩
   obtain ⟨q1,q2⟩:=fb_bd (l.take i)
   rw [hp] at hs q1 q2 ⊢
   have e1:bitV .or .u64 (IntKind.u64.wrap (p.1 * 2 ^ (min (8:Int).toNat IntKind.u64.bits))) (p.2.fdiv (2 ^ (min (56:Int).toNat IntKind.u64.bits)))=(fb (l.take (i + 1))).1:=by rw [hs];exact fb_one p x
   have e2:bitV .or .u64 (IntKind.u64.wrap (p.2 * 2 ^ (min (8:Int).toNat IntKind.u64.bits))) x=(fb (l.take (i + 1))).2:=by rw [hs];rfl
   unfold adC
   repeat (refine Wq ?_)
   refine qW 42 43 rfl<|qK rfl<|Nl ?_
   repeat (refine Wq ?_)
   refine Wt rfl ‹_›<|Wu ?_
   repeat (refine Wq ?_)
   refine Wb ?_
   repeat (refine Wq ?_)
   refine qW 47 50 rfl<|qJ rfl rfl ty73 ty5 (by omega)<|Od rfl rfl (Li rfl rfl hat ty5 rfl)<|qA rfl<|Nl ?_
   repeat (refine Wq ?_)
   refine qW 54 63 rfl<|qF rfl ty34 rfl<|qL rfl ty32 rfl<|Od rfl rfl (LO.shl rfl rfl rfl (by omega))<|qF rfl ty34 rfl<|qL rfl ty32 rfl<|Od rfl rfl (LO.shr rfl rfl rfl (by omega))<|Od rfl rfl (LO.or rfl rfl rfl)<|qF rfl ty34 rfl<|qS rfl ty32 (Sl rfl) rfl<|Nl<|qW 67 75 rfl<|qF rfl ty34 rfl<|qL rfl ty32 rfl<|Od rfl rfl (LO.shl rfl rfl rfl (by omega))<|qM rfl<|Od rfl rfl (Ci rfl rfl ty5 ty32 (IntWalk.u64_in _ (by omega)))<|Od rfl rfl (LO.or rfl rfl rfl)<|qF rfl ty34 rfl<|qS rfl ty32 (Sl rfl) rfl<|Nl ?_
   rw [e1,e2]
   refine qW 79 81 rfl<|qZ rfl (iW _ (by omega))<|qM rfl<|Nl<|WL.renameL [(0,0),(1,1)] 2 (by decide) ?_ ?_ (ihA (i + 1) (show l.length - (i + 1) < l.length - i from by omega) (show (i + 1)≤l.length from by omega))
   ·exact lC (lI rfl) (lC (lI rfl) (lC (lR rfl) (lC (lR rfl) (lC (lR rfl) lN))))
   ·exact aU (kR rfl) (aU (kR rfl) aM)
  ·have g5:decide ((i:Int) < (l.length:Int))=false:=decide_eq_false (by omega)
   repeat (refine Wq ?_)
   refine qW 42 43 rfl<|qK rfl<|Nl ?_
   repeat (refine Wq ?_)
   refine Wo rfl ‹_›<|Wx ?_
   obtain rfl:i=l.length:=by omega
   rw [List.take_length]
   unfold adC
   repeat (refine Wq ?_)
   refine qW 85 88 rfl<|qG rfl ty34 rfl (Tl rfl)<|qS rfl ty34 (Sl rfl) rfl<|qA rfl<|Nl<|Wz ⟨.inl rfl,_,mt,(Rc (Ra0 rfl rfl ty34 rfl (Tl rfl)) (Rc (Rt0 rfl) Rv)),aM,?_⟩
   exact ⟨rfl,rfl⟩
theorem fromX_any (l:List Int) (hB:IsB l) (hn:l.length=4∨l.length=16):AFn Tryz.prog 29 0 [.isl (bytesC l) l.length] mt (.tup [.agg (adC ⟨(l.length:Int) == 16,(fb l).1,(fb l).2⟩),.base (.int .i64 0)]) mt:=by
 refine AFn.eq Tryz.func29 rfl rfl (Nat.le_of_ble_eq_true rfl)<|Wq<|qW 0 2 rfl<|qB rfl ty34<|qA rfl<|Nl ?_
 have key:((l.length:Int) != 4)=false∨(((l.length:Int) != 4)=true∧((l.length:Int) != 16)=false):=by
  rcases hn with h|h
  ·exact .inl (by rw [h];rfl)
  ·exact .inr ⟨by rw [h];rfl,by rw [h];rfl⟩
 rcases key with g1|⟨g1,g2⟩
 case' inl =>
  refine Wq<|Wq<|qW 6 14 rfl<|qM rfl<|qH rfl ty73<|qN rfl<|qM rfl<|qD rfl ‹_› rfl<|qD rfl ‹_› rfl<|qD rfl ‹_› rfl<|qP rfl ‹_› rfl<|Nl ?_
 case' inr =>
  refine Wq<|Wq<|qW 6 14 rfl<|qM rfl<|qH rfl ty73<|qN rfl<|qM rfl<|gM rfl ‹_›<|gH rfl ‹_› ty73<|gN rfl ‹_›<|qT rfl ‹_› rfl<|Nl ?_
 all_goals
  refine Wo rfl (by first|rfl|assumption)<|Wu ?_
  repeat (refine Wq ?_)
  refine qW 25 31 rfl<|qM rfl<|qH rfl ty73<|qE rfl<|Od rfl rfl (Bs rfl ty34 (.cons rfl rfl rfl rfl (Sl rfl) .nil))<|qB rfl ty34<|qS rfl ty34 (Sl rfl) rfl<|Nl ?_
  repeat (refine Wq ?_)
  refine qW 35 38 rfl<|qM rfl<|qH rfl ty73<|qM rfl<|Nl<|Wb<|W.loop_keep (α:=Nat) (fun x=>l.length - x) 2 (fun x=>[(2,.own 0 0),(4,.own 1 0),(22,.base (.int .i64 (x:Int)))]) (fun x=>up (up mt 0 (some (adC zAd))) 1 (some (adC ⟨(l.length:Int) == 16,(fb (l.take x)).1,(fb (l.take x)).2⟩))) (fun x=>x≤l.length) 0 [(0,0),(1,29)] (.cons (t:=20) rfl (by exact .inl rfl) (.cons (t:=21) rfl (by exact .inl rfl) .nil)) (show 0≤l.length from Nat.zero_le _) (by decide) ?_ ?_ ?_
  ·exact lC (lI rfl) (lC (lI rfl) (lC (lR rfl) lN))
  ·exact aU (kR rfl) (aU (kR rfl) aM)
  rintro i hIA ihA
  try (dsimp only at hIA)
  try dsimp only [baseT,List.cons_append,List.nil_append]
  by_cases hc:i < l.length
  ·have g5:decide ((i:Int) < (l.length:Int))=true:=decide_eq_true (by omega)
   have hs:=fb_snoc l i hc
   have hx:=hB.at i
   obtain ⟨x,hxe⟩:∃ x,gB l i=x:=⟨_,rfl⟩
   have hat:=by_at hc
   rw [hxe] at hs hx hat
   obtain ⟨p,hp⟩:∃ p,fb (l.take i)=p:=⟨_,rfl⟩
   obtain ⟨q1,q2⟩:=fb_bd (l.take i)
   rw [hp] at hs q1 q2 ⊢
   have e1:bitV .or .u64 (IntKind.u64.wrap (p.1 * 2 ^ (min (8:Int).toNat IntKind.u64.bits))) (p.2.fdiv (2 ^ (min (56:Int).toNat IntKind.u64.bits)))=(fb (l.take (i + 1))).1:=by rw [hs];exact fb_one p x
   have e2:bitV .or .u64 (IntKind.u64.wrap (p.2 * 2 ^ (min (8:Int).toNat IntKind.u64.bits))) x=(fb (l.take (i + 1))).2:=by rw [hs];rfl
   unfold adC
   repeat (refine Wq ?_)
   refine qW 42 43 rfl<|qK rfl<|Nl ?_
   repeat (refine Wq ?_)
   refine Wt rfl ‹_›<|Wu ?_
   repeat (refine Wq ?_)
   refine Wb ?_
   repeat (refine Wq ?_)
   refine qW 47 50 rfl<|qJ rfl rfl ty73 ty5 (by omega)<|Od rfl rfl (Li rfl rfl hat ty5 rfl)<|qA rfl<|Nl ?_
   repeat (refine Wq ?_)
   refine qW 54 63 rfl<|qF rfl ty34 rfl<|qL rfl ty32 rfl<|Od rfl rfl (LO.shl rfl rfl rfl (by omega))<|qF rfl ty34 rfl<|qL rfl ty32 rfl<|Od rfl rfl (LO.shr rfl rfl rfl (by omega))<|Od rfl rfl (LO.or rfl rfl rfl)<|qF rfl ty34 rfl<|qS rfl ty32 (Sl rfl) rfl<|Nl<|qW 67 75 rfl<|qF rfl ty34 rfl<|qL rfl ty32 rfl<|Od rfl rfl (LO.shl rfl rfl rfl (by omega))<|qM rfl<|Od rfl rfl (Ci rfl rfl ty5 ty32 (IntWalk.u64_in _ (by omega)))<|Od rfl rfl (LO.or rfl rfl rfl)<|qF rfl ty34 rfl<|qS rfl ty32 (Sl rfl) rfl<|Nl ?_
   rw [e1,e2]
   refine qW 79 81 rfl<|qZ rfl (iW _ (by omega))<|qM rfl<|Nl<|WL.renameL [(0,0),(1,1)] 2 (by decide) ?_ ?_ (ihA (i + 1) (show l.length - (i + 1) < l.length - i from by omega) (show (i + 1)≤l.length from by omega))
   ·exact lC (lI rfl) (lC (lI rfl) (lC (lR rfl) (lC (lR rfl) (lC (lR rfl) lN))))
   ·exact aU (kR rfl) (aU (kR rfl) aM)
  ·have g5:decide ((i:Int) < (l.length:Int))=false:=decide_eq_false (by omega)
   repeat (refine Wq ?_)
   refine qW 42 43 rfl<|qK rfl<|Nl ?_
   repeat (refine Wq ?_)
   refine Wo rfl ‹_›<|Wx ?_
   obtain rfl:i=l.length:=by omega
   rw [List.take_length]
   unfold adC
   repeat (refine Wq ?_)
   refine qW 85 88 rfl<|qG rfl ty34 rfl (Tl rfl)<|qS rfl ty34 (Sl rfl) rfl<|qA rfl<|Nl<|Wz ⟨.inl rfl,_,mt,(Rc (Ra0 rfl rfl ty34 rfl (Tl rfl)) (Rc (Rt0 rfl) Rv)),aM,?_⟩
   exact ⟨rfl,rfl⟩
end Go.Proofs.YtndbhhgmpjjjhaaGreatDoor
namespace Go.Proofs.YtndbhhgmpjjjhaaGreatDoor
open Go.RowKit
theorem by_sp {l:List Int} {k:Nat} {v:Int} (h:k < l.length):Sp (bytesC l) (0 + k * 1) [.base (.int .u8 v)] (bytesC (l.set k v)):=by
 have:=Sp.set (bytesC l) k (.base (.int .u8 v)) (by rwa [bytesC_len])
 rw [show bytesC (l.set k v)=(bytesC l).set k (.base (.int .u8 v)) from by simp [bytesC,List.map_set]]
 simpa using this
def numA (a:Ad):Int:=a.hi * 18446744073709551616 + a.lo
def addrL (a:Ad):List Int:=addrB a.v6 a.hi a.lo
theorem addrL_len (a:Ad):(addrL a).length=if a.v6 then 16 else 4:=addrB_len _ _ _
theorem addrL_isB (a:Ad):IsB (addrL a):=by unfold addrL addrB;exact beN_isB _ _
theorem bytesX_any (a:Ad) (hv:validA a.v6 a.hi a.lo=true) (_h1:U64 a.hi) (h2:U64 a.lo):AFn Tryz.prog 28 0 [.agg (adC a)] mt (.osl 0 0 (addrL a).length 1) (up mt 0 (some (bytesC (addrL a)))):=by
 refine AFn.eq Tryz.func28 rfl rfl (Nat.le_of_ble_eq_true rfl) ?_
 have hav:=rvalid_any a
 rw [hv] at hav
 obtain ⟨n,hn⟩:∃ n,(if a.v6 then 16 else 4)=n:=⟨_,rfl⟩
 have hlen:(addrL a).length=n:=by rw [addrL_len,hn]
 have hbe:addrL a=beN n (numA a):=by unfold addrL addrB;rw [hn];rfl
 have hpn:preB n n (numA a)=beN n (numA a):=rfl
 rw [hlen]
 have hn16:1≤n∧n≤16:=by rw [← hn];split<;>omega
 have hba:=fun i hi=>byteN_at a.hi a.lo h2.1 h2.2 i hi
 refine Wq<|qW 0 2 rfl<|qC rfl<|qA rfl<|Nl<|Wq<|Wq<|qW 6 9 rfl<|qG rfl ty34 rfl (Tl rfl)<|qY rfl (hav) fok19 rfl<|qO rfl<|Nl<|Wo rfl rfl<|Wu<|Wq<|qW 18 19 rfl<|qA rfl<|Nl ?_
 have hnc:a.v6=true∧n=16∨a.v6=false∧n=4:=by
  cases hb:a.v6<;>rw [hb] at hn<;>simp at hn
  ·exact .inr ⟨rfl,hn.symm⟩
  ·exact .inl ⟨rfl,hn.symm⟩
 unfold adC
 refine Wq<|Wq<|qW 23 25 rfl<|qF rfl ty34 rfl<|qL rfl ty4 rfl<|Nl ?_
 rcases hnc with ⟨hb,hn4⟩|⟨hb,hn4⟩
 case' inl =>
  refine Wt rfl ‹_›<|qW 29 30 rfl<|qA rfl<|Nl ?_
  rw [show (16:Int)=((n:Nat):Int) from by rw [hn4];rfl]
 case' inr =>
  refine Wo rfl ‹_›<|Wu ?_
  rw [show (4:Int)=((n:Nat):Int) from by rw [hn4];rfl]
 all_goals
  repeat (refine Wq ?_)
  refine qW 34 35 rfl<|qA rfl<|Nl ?_
  repeat (refine Wq ?_)
  refine qW 39 42 rfl<|qM rfl<|Od rfl rfl (LO.sub_in rfl rfl rfl (iW _ (by omega)))<|qA rfl<|Nl<|W.name 42 (42 + 1) (t:=4) (sz:=1) rfl (by decide) (by decide) ?_
  rw [show (n:Int) - 1=((n:Nat):Int) - 1 - ((0:Nat):Int) from by omega]
  refine Wb<|W.loop_keep (α:=Nat) (fun x=>n - x) 2 (fun x=>[(1,.own 0 0),(4,.osl 1 0 (preB n x (numA a)).length 1),(5,.base (.int .i64 ((n:Int) - 1 - (x:Int))))]) (fun x=>up (up mt 0 (some (adC a))) 1 (some (bytesC (preB n x (numA a))))) (fun x=>x≤n) 0 [(0,0),(1,42)] .nil (show 0≤n from Nat.zero_le _) (by decide) ?_ ?_ ?_
  ·exact lC (lI rfl) (lC (lI rfl) (lC (lR rfl) lN))
  ·exact aU (kR rfl) (aU (kR rfl) aM)
  rintro j hIA ihA
  try (dsimp only at hIA)
  try dsimp only [baseT,List.cons_append,List.nil_append]
  have hpl:=preB_len n j (numA a)
  by_cases hc:j < n
  ·have g1:decide ((n:Int) - 1 - (j:Int) ≥ 0)=true:=decide_eq_true (by omega)
   have hsn:=preB_snoc n j (numA a)
   obtain ⟨q,hqe⟩:∃ q,n - 1 - j=q:=⟨_,rfl⟩
   have hqi:(n:Int) - 1 - (j:Int)=(q:Int):=by omega
   have hba:=hba q (by omega)
   rw [hqe] at hsn
   have hmod:(8:Int) * ((q:Int) % 8)=((8 * (q % 8):Nat):Int):=by omega
   have hsh:∀ w:Int,IntKind.u8.wrap (w.fdiv (2 ^ (min (((8 * (q % 8):Nat):Int)).toNat IntKind.u64.bits)))=w / 2 ^ (8 * (q % 8)) % 256:=fun w=>by
    rw [Int.toNat_natCast,Nat.min_eq_left (show 8 * (q % 8)≤IntKind.u64.bits from by show _≤64;omega),Int.fdiv_eq_ediv_of_nonneg _ (Int.le_of_lt (Int.pow_pos (by decide))),IntKind.wrap_u8']
   rw [hqi]
   rw [hqi] at g1
   unfold adC
   repeat (refine Wq ?_)
   refine qW 46 48 rfl<|qM rfl<|qGe rfl<|Nl<|Wt rfl rfl<|Wu ?_
   repeat (refine Wq ?_)
   refine Wb ?_
   repeat (refine Wq ?_)
   refine qW 52 55 rfl<|qF rfl ty34 rfl<|qL rfl ty32 rfl<|qA rfl<|Nl ?_
   by_cases h8:8≤q
   ·have g2:decide ((q:Int) ≥ 8)=true:=decide_eq_true (by omega)
    rw [if_pos h8] at hba
    have hfin:IntKind.u8.wrap ((a.hi).fdiv (2 ^ (min (((8 * (q % 8):Nat):Int)).toNat IntKind.u64.bits)))=byteN (numA a) q:=by rw [hsh,hba];rfl
    repeat (refine Wq ?_)
    refine qW 59 61 rfl<|qM rfl<|qGe rfl<|Nl<|Wt rfl ‹_›<|qW 65 68 rfl<|qF rfl ty34 rfl<|qL rfl ty32 rfl<|qA rfl<|Nl<|qW 72 83 rfl<|qM rfl<|qM rfl<|qM rfl<|Od rfl rfl (LO.rem_in rfl rfl rfl (by omega) (by omega))<|Od rfl rfl (Ci rfl rfl ty3 ty75 (IntWalk.u64_in _ (by omega)))<|Od rfl rfl (LO.mul_in rfl rfl rfl (IntWalk.u64_in _ (by omega))) ?_
    rw [hmod]
    refine Od rfl rfl (LO.shr rfl rfl rfl (by omega))<|Od rfl rfl (LO.conv rfl rfl ty32 ty5) ?_
    rw [hfin]
    refine Od rfl rfl (LO.buildSlice rfl ty73 ty5 (by decide) (by decide) (.cons rfl rfl rfl rfl (Sl rfl) .nil))<|Od rfl rfl (Lap rfl rfl (Sso rfl rfl (Tl rfl)) rfl (bytes_tk rfl) ty73 ty73 ty5 (by decide) (by omega) (by omega) (by decide))<|qA rfl<|Nl ?_
    rw [show bytesC (preB n j (numA a))++[AV.base (.int .u8 (byteN (numA a) q))]=bytesC (preB n (j + 1) (numA a)) from by rw [hsn,bytesC_app];rfl,show (preB n j (numA a)).length + 1=(preB n (j + 1) (numA a)).length from by rw [preB_len,preB_len]]
    refine qW 87 90 rfl<|qM rfl<|Od rfl rfl (LO.sub_in rfl rfl rfl (iW _ (by omega)))<|qA rfl<|Nl ?_
    rw [show (q:Int) - 1=(n:Int) - 1 - ((j + 1:Nat):Int) from by omega]
    refine WL.renameL [(0,0),(1,81)] 2 (by decide) ?_ ?_ (ihA (j + 1) (show n - (j + 1) < n - j from by omega) (show (j + 1)≤n from by omega))
    ·exact lC (lI rfl) (lC (lI rfl) (lC (lR rfl) lN))
    ·exact aU (kP rfl (bytesC_pure _)) (aU (kR rfl) aM)
   ·have g2:decide ((q:Int) ≥ 8)=false:=decide_eq_false (by omega)
    rw [if_neg h8] at hba
    have hfin:IntKind.u8.wrap ((a.lo).fdiv (2 ^ (min (((8 * (q % 8):Nat):Int)).toNat IntKind.u64.bits)))=byteN (numA a) q:=by rw [hsh,hba];rfl
    repeat (refine Wq ?_)
    refine qW 59 61 rfl<|qM rfl<|qGe rfl<|Nl<|Wo rfl ‹_›<|Wu<|qW 72 83 rfl<|qM rfl<|qM rfl<|qM rfl<|Od rfl rfl (LO.rem_in rfl rfl rfl (by omega) (by omega))<|Od rfl rfl (Ci rfl rfl ty3 ty75 (IntWalk.u64_in _ (by omega)))<|Od rfl rfl (LO.mul_in rfl rfl rfl (IntWalk.u64_in _ (by omega))) ?_
    rw [hmod]
    refine Od rfl rfl (LO.shr rfl rfl rfl (by omega))<|Od rfl rfl (LO.conv rfl rfl ty32 ty5) ?_
    rw [hfin]
    refine Od rfl rfl (LO.buildSlice rfl ty73 ty5 (by decide) (by decide) (.cons rfl rfl rfl rfl (Sl rfl) .nil))<|Od rfl rfl (Lap rfl rfl (Sso rfl rfl (Tl rfl)) rfl (bytes_tk rfl) ty73 ty73 ty5 (by decide) (by omega) (by omega) (by decide))<|qA rfl<|Nl ?_
    rw [show bytesC (preB n j (numA a))++[AV.base (.int .u8 (byteN (numA a) q))]=bytesC (preB n (j + 1) (numA a)) from by rw [hsn,bytesC_app];rfl,show (preB n j (numA a)).length + 1=(preB n (j + 1) (numA a)).length from by rw [preB_len,preB_len]]
    refine qW 87 90 rfl<|qM rfl<|Od rfl rfl (LO.sub_in rfl rfl rfl (iW _ (by omega)))<|qA rfl<|Nl ?_
    rw [show (q:Int) - 1=(n:Int) - 1 - ((j + 1:Nat):Int) from by omega]
    refine WL.renameL [(0,0),(1,81)] 2 (by decide) ?_ ?_ (ihA (j + 1) (show n - (j + 1) < n - j from by omega) (show (j + 1)≤n from by omega))
    ·exact lC (lI rfl) (lC (lI rfl) (lC (lR rfl) lN))
    ·exact aU (kP rfl (bytesC_pure _)) (aU (kR rfl) aM)
  ·have g1:decide ((n:Int) - 1 - (j:Int) ≥ 0)=false:=decide_eq_false (by omega)
   repeat (refine Wq ?_)
   refine qW 46 48 rfl<|qM rfl<|qGe rfl<|Nl<|Wo rfl ‹_›<|Wx ?_
   obtain rfl:j=n:=by omega
   rw [preB_len,hpn,← hbe]
   repeat (refine Wq ?_)
   refine qW 94 96 rfl<|qM rfl<|qA rfl<|Nl<|W.rename [(0,1)] 1 (T':=up mt 2 (some (.osl 0 0 (j) 1))) (H':=up mt 0 (some (bytesC (addrL a)))) (by decide) ?_ ?_ ?_
   ·exact aU (lI rfl) aM
   ·exact aU (kP rfl (bytesC_pure _)) aM
   refine Wz ⟨.inl rfl,_,up mt 0 (some (bytesC (addrL a))),Rc (Rt0 rfl) Rv,aU rfl aM,?_⟩
   exact ⟨rfl,rfl⟩
end Go.Proofs.YtndbhhgmpjjjhaaGreatDoor
