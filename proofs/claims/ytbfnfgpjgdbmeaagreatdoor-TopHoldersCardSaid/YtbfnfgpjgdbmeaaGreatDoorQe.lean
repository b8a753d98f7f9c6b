/-
  The types of the program. The list of numbers that everything is made from: the next number, a new list. From 'the walk returns true and leaves what lay there as it was' to a statement's row; the arguments that come in, as the abstract machine sees them. Bytes, numbers of several bytes, addresses, check sums, packets: plain words and laws. Addresses and bytes as the abstract machine sees them; small functions of addresses and neighbours. The database of members as the abstract machine sees it; keys of its maps. Comparing structs and arrays of numbers. Which messages are valid: both texts. Check sums, addresses from bytes: both texts.
-/
import Derived.Test.YtbfnfgpjgdbmeaaGreatDoorMab
import Derived.KernelRfl
import Derived.Test.YtbfnfgpjgdbmeaaGreatDoorRows
import Derived.ProofKit
import Derived.Laws.Entries
import Derived.Laws.CopyOwn
import Derived.OpenShut
import Derived.DeepKeys
namespace Go.Proofs.YtbfnfgpjgdbmeaaGreatDoor
open Go.RowKit
theorem ty2:TyOK Tryz.prog 2 (.int .i64) 1 8 [vI 0]:=by unfold TyOK;kernel_rfl
theorem ty3:TyOK Tryz.prog 3 (.int .i64) 1 8 [vI 0]:=by unfold TyOK;kernel_rfl
theorem ty4:TyOK Tryz.prog 4 (.bool) 1 1 [vF]:=by unfold TyOK;kernel_rfl
theorem ty5:TyOK Tryz.prog 5 (.int .u8) 1 1 [vB 0]:=by unfold TyOK;kernel_rfl
theorem ty6:TyOK Tryz.prog 6 (.int .u8) 1 1 [vB 0]:=by unfold TyOK;kernel_rfl
theorem ty7:TyOK Tryz.prog 7 (.st [(0,1,2),(1,1,3),(2,1,4),(3,1,6)]) 4 24 [vI 0,vI 0,vF,vB 0]:=by unfold TyOK;kernel_rfl
theorem ty8:TyOK Tryz.prog 8 (.st [(0,1,2),(1,1,3),(2,1,4),(3,1,6)]) 4 24 [vI 0,vI 0,vF,vB 0]:=by unfold TyOK;kernel_rfl
theorem ty9:TyOK Tryz.prog 9 (.str) 1 16 [.base (.string ⟨#[]⟩)]:=by unfold TyOK;kernel_rfl
theorem ty10:TyOK Tryz.prog 10 (.str) 1 16 [.base (.string ⟨#[]⟩)]:=by unfold TyOK;kernel_rfl
theorem ty11:TyOK Tryz.prog 11 (.str) 1 16 [.base (.string ⟨#[]⟩)]:=by unfold TyOK;kernel_rfl
theorem ty12:TyOK Tryz.prog 12 (.int .u64) 1 8 [vU 0]:=by unfold TyOK;kernel_rfl
theorem ty13:TyOK Tryz.prog 13 (.st [(0,1,9),(1,1,12)]) 2 24 [.base (.string ⟨#[]⟩),vU 0]:=by unfold TyOK;kernel_rfl
theorem ty14:TyOK Tryz.prog 14 (.st [(0,1,9),(1,1,12)]) 2 24 [.base (.string ⟨#[]⟩),vU 0]:=by unfold TyOK;kernel_rfl
theorem ty15:TyOK Tryz.prog 15 (.ptr 493) 1 8 [.base (.pointer none)]:=by unfold TyOK;kernel_rfl
theorem ty16:TyOK Tryz.prog 16 (.ptr 496) 1 8 [.base (.pointer none)]:=by unfold TyOK;kernel_rfl
theorem ty17:TyOK Tryz.prog 17 (.ptr 503) 1 8 [.base (.pointer none)]:=by unfold TyOK;kernel_rfl
theorem ty18:TyOK Tryz.prog 18 (.st [(0,1,17)]) 1 8 [.base (.pointer none)]:=by unfold TyOK;kernel_rfl
theorem ty19:TyOK Tryz.prog 19 (.st [(0,1,17)]) 1 8 [.base (.pointer none)]:=by unfold TyOK;kernel_rfl
theorem ty21:TyOK Tryz.prog 21 (.int .i32) 1 4 [.base (.int .i32 0)]:=by unfold TyOK;kernel_rfl
theorem ty22:TyOK Tryz.prog 22 (.sl 3) 1 24 [.nils]:=by unfold TyOK;kernel_rfl
theorem ty23:TyOK Tryz.prog 23 (.ptr 70) 1 8 [.base (.pointer none)]:=by unfold TyOK;kernel_rfl
theorem ty25:TyOK Tryz.prog 25 (.sl 48) 1 24 [.nils]:=by unfold TyOK;kernel_rfl
theorem ty27:TyOK Tryz.prog 27 (.sl 42) 1 24 [.nils]:=by unfold TyOK;kernel_rfl
theorem ty30:TyOK Tryz.prog 30 (.sl 40) 1 24 [.nils]:=by unfold TyOK;kernel_rfl
theorem ty31:TyOK Tryz.prog 31 (.int .i64) 1 8 [vI 0]:=by unfold TyOK;kernel_rfl
theorem ty34:TyOK Tryz.prog 34 (.int .u64) 1 8 [vU 0]:=by unfold TyOK;kernel_rfl
theorem ty35:TyOK Tryz.prog 35 (.st [(0,1,4),(1,1,34),(2,1,34)]) 3 24 [vF,vU 0,vU 0]:=by unfold TyOK;kernel_rfl
theorem ty36:TyOK Tryz.prog 36 (.st [(0,1,4),(1,1,34),(2,1,34)]) 3 24 [vF,vU 0,vU 0]:=by unfold TyOK;kernel_rfl
theorem ty37:TyOK Tryz.prog 37 (.st [(0,3,36),(3,1,3)]) 4 32 [vF,vU 0,vU 0,vI 0]:=by unfold TyOK;kernel_rfl
theorem ty38:TyOK Tryz.prog 38 (.st [(0,3,36),(3,1,3)]) 4 32 [vF,vU 0,vU 0,vI 0]:=by unfold TyOK;kernel_rfl
theorem ty39:TyOK Tryz.prog 39 (.st [(0,4,38),(4,1,3),(5,1,3)]) 6 48 [vF,vU 0,vU 0,vI 0,vI 0,vI 0]:=by unfold TyOK;kernel_rfl
theorem ty40:TyOK Tryz.prog 40 (.st [(0,4,38),(4,1,3),(5,1,3)]) 6 48 [vF,vU 0,vU 0,vI 0,vI 0,vI 0]:=by unfold TyOK;kernel_rfl
theorem ty41:TyOK Tryz.prog 41 (.st [(0,1,3),(1,1,3),(2,1,3),(3,1,3),(4,1,30)]) 5 56 [vI 0,vI 0,vI 0,vI 0,.nils]:=by unfold TyOK;kernel_rfl
theorem ty42:TyOK Tryz.prog 42 (.st [(0,1,3),(1,1,3),(2,1,3),(3,1,3),(4,1,30)]) 5 56 [vI 0,vI 0,vI 0,vI 0,.nils]:=by unfold TyOK;kernel_rfl
theorem ty43:TyOK Tryz.prog 43 (.sl 80) 1 24 [.nils]:=by unfold TyOK;kernel_rfl
theorem ty44:TyOK Tryz.prog 44 (.sl 125) 1 24 [.nils]:=by unfold TyOK;kernel_rfl
theorem ty45:TyOK Tryz.prog 45 (.st [(0,1,43),(1,1,44)]) 2 48 [.nils,.nils]:=by unfold TyOK;kernel_rfl
theorem ty46:TyOK Tryz.prog 46 (.st [(0,1,43),(1,1,44)]) 2 48 [.nils,.nils]:=by unfold TyOK;kernel_rfl
theorem ty47:TyOK Tryz.prog 47 (.st [(0,1,3),(1,1,3),(2,1,3),(3,1,3),(4,2,46)]) 6 80 [vI 0,vI 0,vI 0,vI 0,.nils,.nils]:=by unfold TyOK;kernel_rfl
theorem ty48:TyOK Tryz.prog 48 (.st [(0,1,3),(1,1,3),(2,1,3),(3,1,3),(4,2,46)]) 6 80 [vI 0,vI 0,vI 0,vI 0,.nils,.nils]:=by unfold TyOK;kernel_rfl
theorem ty53:TyOK Tryz.prog 53 (.sl 57) 1 24 [.nils]:=by unfold TyOK;kernel_rfl
theorem ty54:TyOK Tryz.prog 54 (.sl 38) 1 24 [.nils]:=by unfold TyOK;kernel_rfl
theorem ty56:TyOK Tryz.prog 56 (.st [(0,4,38),(4,1,3)]) 5 40 [vF,vU 0,vU 0,vI 0,vI 0]:=by unfold TyOK;kernel_rfl
theorem ty57:TyOK Tryz.prog 57 (.st [(0,4,38),(4,1,3)]) 5 40 [vF,vU 0,vU 0,vI 0,vI 0]:=by unfold TyOK;kernel_rfl
theorem ty65:TyOK Tryz.prog 65 (.sl 36) 1 24 [.nils]:=by unfold TyOK;kernel_rfl
theorem ty69:TyOK Tryz.prog 69 (.st [(0,1,22),(1,1,3)]) 2 32 [.nils,vI 0]:=by unfold TyOK;kernel_rfl
theorem ty70:TyOK Tryz.prog 70 (.st [(0,1,22),(1,1,3)]) 2 32 [.nils,vI 0]:=by unfold TyOK;kernel_rfl
theorem ty75:TyOK Tryz.prog 75 (.sl 4) 1 24 [.nils]:=by unfold TyOK;kernel_rfl
theorem ty79:TyOK Tryz.prog 79 (.st [(0,3,36),(3,3,36)]) 6 48 [vF,vU 0,vU 0,vF,vU 0,vU 0]:=by unfold TyOK;kernel_rfl
theorem ty80:TyOK Tryz.prog 80 (.st [(0,3,36),(3,3,36)]) 6 48 [vF,vU 0,vU 0,vF,vU 0,vU 0]:=by unfold TyOK;kernel_rfl
theorem ty84:TyOK Tryz.prog 84 (.sl 184) 1 24 [.nils]:=by unfold TyOK;kernel_rfl
theorem ty85:TyOK Tryz.prog 85 (.st [(0,4,38),(4,4,38),(8,1,84),(9,1,84)]) 10 112 [vF,vU 0,vU 0,vI 0,vF,vU 0,vU 0,vI 0,.nils,.nils]:=by unfold TyOK;kernel_rfl
theorem ty86:TyOK Tryz.prog 86 (.st [(0,4,38),(4,4,38),(8,1,84),(9,1,84)]) 10 112 [vF,vU 0,vU 0,vI 0,vF,vU 0,vU 0,vI 0,.nils,.nils]:=by unfold TyOK;kernel_rfl
theorem ty87:TyOK Tryz.prog 87 (.sl 109) 1 24 [.nils]:=by unfold TyOK;kernel_rfl
theorem ty88:TyOK Tryz.prog 88 (.sl 112) 1 24 [.nils]:=by unfold TyOK;kernel_rfl
theorem ty92:TyOK Tryz.prog 92 (.sl 275) 1 24 [.nils]:=by unfold TyOK;kernel_rfl
theorem ty93:TyOK Tryz.prog 93 (.st [(0,1,3),(1,1,92),(2,1,75),(3,1,75)]) 4 80 [vI 0,.nils,.nils,.nils]:=by unfold TyOK;kernel_rfl
theorem ty94:TyOK Tryz.prog 94 (.st [(0,1,3),(1,1,92),(2,1,75),(3,1,75)]) 4 80 [vI 0,.nils,.nils,.nils]:=by unfold TyOK;kernel_rfl
theorem ty95:TyOK Tryz.prog 95 (.arr 6 5) 6 6 [vB 0,vB 0,vB 0,vB 0,vB 0,vB 0]:=by unfold TyOK;kernel_rfl
theorem ty96:TyOK Tryz.prog 96 (.arr 6 5) 6 6 [vB 0,vB 0,vB 0,vB 0,vB 0,vB 0]:=by unfold TyOK;kernel_rfl
theorem ty97:TyOK Tryz.prog 97 (.sl 5) 1 24 [.nils]:=by unfold TyOK;kernel_rfl
theorem ty98:TyOK Tryz.prog 98 (.st [(0,6,96),(6,6,96),(12,1,3),(13,1,3),(14,1,97)]) 15 56 [vB 0,vB 0,vB 0,vB 0,vB 0,vB 0,vB 0,vB 0,vB 0,vB 0,vB 0,vB 0,vI 0,vI 0,.nils]:=by unfold TyOK;kernel_rfl
theorem ty99:TyOK Tryz.prog 99 (.st [(0,6,96),(6,6,96),(12,1,3),(13,1,3),(14,1,97)]) 15 56 [vB 0,vB 0,vB 0,vB 0,vB 0,vB 0,vB 0,vB 0,vB 0,vB 0,vB 0,vB 0,vI 0,vI 0,.nils]:=by unfold TyOK;kernel_rfl
theorem ty100:TyOK Tryz.prog 100 (.st [(0,1,3),(1,1,22),(2,15,99)]) 17 88 [vI 0,.nils,vB 0,vB 0,vB 0,vB 0,vB 0,vB 0,vB 0,vB 0,vB 0,vB 0,vB 0,vB 0,vI 0,vI 0,.nils]:=by unfold TyOK;kernel_rfl
theorem ty101:TyOK Tryz.prog 101 (.st [(0,1,3),(1,1,22),(2,15,99)]) 17 88 [vI 0,.nils,vB 0,vB 0,vB 0,vB 0,vB 0,vB 0,vB 0,vB 0,vB 0,vB 0,vB 0,vB 0,vI 0,vI 0,.nils]:=by unfold TyOK;kernel_rfl
theorem ty102:TyOK Tryz.prog 102 (.st [(0,1,3),(1,1,3),(2,1,3)]) 3 24 [vI 0,vI 0,vI 0]:=by unfold TyOK;kernel_rfl
theorem ty103:TyOK Tryz.prog 103 (.st [(0,1,3),(1,1,3),(2,1,3)]) 3 24 [vI 0,vI 0,vI 0]:=by unfold TyOK;kernel_rfl
theorem ty107:TyOK Tryz.prog 107 (.sl 96) 1 24 [.nils]:=by unfold TyOK;kernel_rfl
theorem ty108:TyOK Tryz.prog 108 (.st [(0,1,3),(1,1,3),(2,1,3),(3,1,107),(4,1,65),(5,1,65),(6,1,3),(7,1,3)]) 8 112 [vI 0,vI 0,vI 0,.nils,.nils,.nils,vI 0,vI 0]:=by unfold TyOK;kernel_rfl
theorem ty109:TyOK Tryz.prog 109 (.st [(0,1,3),(1,1,3),(2,1,3),(3,1,107),(4,1,65),(5,1,65),(6,1,3),(7,1,3)]) 8 112 [vI 0,vI 0,vI 0,.nils,.nils,.nils,vI 0,vI 0]:=by unfold TyOK;kernel_rfl
theorem ty111:TyOK Tryz.prog 111 (.st [(0,3,36),(3,6,96),(9,1,3)]) 10 40 [vF,vU 0,vU 0,vB 0,vB 0,vB 0,vB 0,vB 0,vB 0,vI 0]:=by unfold TyOK;kernel_rfl
theorem ty112:TyOK Tryz.prog 112 (.st [(0,3,36),(3,6,96),(9,1,3)]) 10 40 [vF,vU 0,vU 0,vB 0,vB 0,vB 0,vB 0,vB 0,vB 0,vI 0]:=by unfold TyOK;kernel_rfl
theorem ty124:TyOK Tryz.prog 124 (.st [(0,1,3),(1,1,3)]) 2 16 [vI 0,vI 0]:=by unfold TyOK;kernel_rfl
theorem ty125:TyOK Tryz.prog 125 (.st [(0,1,3),(1,1,3)]) 2 16 [vI 0,vI 0]:=by unfold TyOK;kernel_rfl
theorem ty127:TyOK Tryz.prog 127 (.sl 217) 1 24 [.nils]:=by unfold TyOK;kernel_rfl
theorem ty128:TyOK Tryz.prog 128 (.sl 219) 1 24 [.nils]:=by unfold TyOK;kernel_rfl
theorem ty129:TyOK Tryz.prog 129 (.st [(0,1,127),(1,1,128)]) 2 48 [.nils,.nils]:=by unfold TyOK;kernel_rfl
theorem ty130:TyOK Tryz.prog 130 (.st [(0,1,127),(1,1,128)]) 2 48 [.nils,.nils]:=by unfold TyOK;kernel_rfl
theorem ty144:TyOK Tryz.prog 144 (.map 38 3) 1 8 [.base (.map none)]:=by unfold TyOK;kernel_rfl
theorem ty151:TyOK Tryz.prog 151 (.int .u64) 1 8 [vU 0]:=by unfold TyOK;kernel_rfl
theorem ty152:TyOK Tryz.prog 152 (.sl 34) 1 24 [.nils]:=by unfold TyOK;kernel_rfl
theorem ty180:TyOK Tryz.prog 180 (.sl 250) 1 24 [.nils]:=by unfold TyOK;kernel_rfl
theorem ty183:TyOK Tryz.prog 183 (.st [(0,1,3),(1,1,9),(2,1,9),(3,1,3),(4,1,3),(5,1,180)]) 6 80 [vI 0,.base (.string ⟨#[]⟩),.base (.string ⟨#[]⟩),vI 0,vI 0,.nils]:=by unfold TyOK;kernel_rfl
theorem ty184:TyOK Tryz.prog 184 (.st [(0,1,3),(1,1,9),(2,1,9),(3,1,3),(4,1,3),(5,1,180)]) 6 80 [vI 0,.base (.string ⟨#[]⟩),.base (.string ⟨#[]⟩),vI 0,vI 0,.nils]:=by unfold TyOK;kernel_rfl
theorem ty186:TyOK Tryz.prog 186 (.sl 9) 1 24 [.nils]:=by unfold TyOK;kernel_rfl
theorem ty187:TyOK Tryz.prog 187 (.ptr 3) 1 8 [.base (.pointer none)]:=by unfold TyOK;kernel_rfl
theorem ty201:TyOK Tryz.prog 201 (.st [(0,1,3),(1,6,96),(7,3,36),(10,6,96),(16,3,36)]) 19 72 [vI 0,vB 0,vB 0,vB 0,vB 0,vB 0,vB 0,vF,vU 0,vU 0,vB 0,vB 0,vB 0,vB 0,vB 0,vB 0,vF,vU 0,vU 0]:=by unfold TyOK;kernel_rfl
theorem ty202:TyOK Tryz.prog 202 (.st [(0,1,3),(1,6,96),(7,3,36),(10,6,96),(16,3,36)]) 19 72 [vI 0,vB 0,vB 0,vB 0,vB 0,vB 0,vB 0,vF,vU 0,vU 0,vB 0,vB 0,vB 0,vB 0,vB 0,vB 0,vF,vU 0,vU 0]:=by unfold TyOK;kernel_rfl
theorem ty216:TyOK Tryz.prog 216 (.st [(0,3,36),(3,3,36)]) 6 48 [vF,vU 0,vU 0,vF,vU 0,vU 0]:=by unfold TyOK;kernel_rfl
theorem ty217:TyOK Tryz.prog 217 (.st [(0,3,36),(3,3,36)]) 6 48 [vF,vU 0,vU 0,vF,vU 0,vU 0]:=by unfold TyOK;kernel_rfl
theorem ty218:TyOK Tryz.prog 218 (.st [(0,1,3),(1,1,3)]) 2 16 [vI 0,vI 0]:=by unfold TyOK;kernel_rfl
theorem ty219:TyOK Tryz.prog 219 (.st [(0,1,3),(1,1,3)]) 2 16 [vI 0,vI 0]:=by unfold TyOK;kernel_rfl
theorem ty233:TyOK Tryz.prog 233 (.ptr 80) 1 8 [.base (.pointer none)]:=by unfold TyOK;kernel_rfl
theorem ty241:TyOK Tryz.prog 241 (.ptr 243) 1 8 [.base (.pointer none)]:=by unfold TyOK;kernel_rfl
theorem ty242:TyOK Tryz.prog 242 (.st [(0,1,186),(1,1,4)]) 2 32 [.nils,vF]:=by unfold TyOK;kernel_rfl
theorem ty243:TyOK Tryz.prog 243 (.st [(0,1,186),(1,1,4)]) 2 32 [.nils,vF]:=by unfold TyOK;kernel_rfl
theorem ty245:TyOK Tryz.prog 245 (.ptr 184) 1 8 [.base (.pointer none)]:=by unfold TyOK;kernel_rfl
theorem ty246:TyOK Tryz.prog 246 (.st [(0,10,86),(10,1,245)]) 11 120 [vF,vU 0,vU 0,vI 0,vF,vU 0,vU 0,vI 0,.nils,.nils,.base (.pointer none)]:=by unfold TyOK;kernel_rfl
theorem ty247:TyOK Tryz.prog 247 (.st [(0,10,86),(10,1,245)]) 11 120 [vF,vU 0,vU 0,vI 0,vF,vU 0,vU 0,vI 0,.nils,.nils,.base (.pointer none)]:=by unfold TyOK;kernel_rfl
theorem ty249:TyOK Tryz.prog 249 (.st [(0,1,3),(1,1,3),(2,1,3),(3,1,107),(4,3,36),(7,3,36)]) 10 96 [vI 0,vI 0,vI 0,.nils,vF,vU 0,vU 0,vF,vU 0,vU 0]:=by unfold TyOK;kernel_rfl
theorem ty250:TyOK Tryz.prog 250 (.st [(0,1,3),(1,1,3),(2,1,3),(3,1,107),(4,3,36),(7,3,36)]) 10 96 [vI 0,vI 0,vI 0,.nils,vF,vU 0,vU 0,vF,vU 0,vU 0]:=by unfold TyOK;kernel_rfl
theorem ty265:TyOK Tryz.prog 265 (.st [(0,3,36),(3,3,36),(6,1,3),(7,1,3),(8,1,97)]) 9 88 [vF,vU 0,vU 0,vF,vU 0,vU 0,vI 0,vI 0,.nils]:=by unfold TyOK;kernel_rfl
theorem ty266:TyOK Tryz.prog 266 (.st [(0,3,36),(3,3,36),(6,1,3),(7,1,3),(8,1,97)]) 9 88 [vF,vU 0,vU 0,vF,vU 0,vU 0,vI 0,vI 0,.nils]:=by unfold TyOK;kernel_rfl
theorem ty274:TyOK Tryz.prog 274 (.st [(0,1,3),(1,1,3),(2,1,3)]) 3 24 [vI 0,vI 0,vI 0]:=by unfold TyOK;kernel_rfl
theorem ty275:TyOK Tryz.prog 275 (.st [(0,1,3),(1,1,3),(2,1,3)]) 3 24 [vI 0,vI 0,vI 0]:=by unfold TyOK;kernel_rfl
theorem ty281:TyOK Tryz.prog 281 (.sl 97) 1 24 [.nils]:=by unfold TyOK;kernel_rfl
theorem ty288:TyOK Tryz.prog 288 (.int .i64) 1 8 [vI 0]:=by unfold TyOK;kernel_rfl
theorem ty295:TyOK Tryz.prog 295 (.int .u32) 1 4 [.base (.int .u32 0)]:=by unfold TyOK;kernel_rfl
theorem ty305:TyOK Tryz.prog 305 (.ptr 307) 1 8 [.base (.pointer none)]:=by unfold TyOK;kernel_rfl
theorem ty306:TyOK Tryz.prog 306 (.st [(0,1,305),(1,1,97)]) 2 32 [.base (.pointer none),.nils]:=by unfold TyOK;kernel_rfl
theorem ty307:TyOK Tryz.prog 307 (.st [(0,1,305),(1,1,97)]) 2 32 [.base (.pointer none),.nils]:=by unfold TyOK;kernel_rfl
theorem ty321:TyOK Tryz.prog 321 (.ptr 247) 1 8 [.base (.pointer none)]:=by unfold TyOK;kernel_rfl
theorem ty323:TyOK Tryz.prog 323 (.ptr 84) 1 8 [.base (.pointer none)]:=by unfold TyOK;kernel_rfl
theorem ty330:TyOK Tryz.prog 330 (.map 3 4) 1 8 [.base (.map none)]:=by unfold TyOK;kernel_rfl
theorem ty331:TyOK Tryz.prog 331 (.map 9 4) 1 8 [.base (.map none)]:=by unfold TyOK;kernel_rfl
theorem ty332:TyOK Tryz.prog 332 (.map 96 4) 1 8 [.base (.map none)]:=by unfold TyOK;kernel_rfl
theorem ty333:TyOK Tryz.prog 333 (.map 36 4) 1 8 [.base (.map none)]:=by unfold TyOK;kernel_rfl
theorem ty343:TyOK Tryz.prog 343 (.st [(0,1,3),(1,1,3),(2,3,36),(5,1,4),(6,6,96)]) 12 48 [vI 0,vI 0,vF,vU 0,vU 0,vF,vB 0,vB 0,vB 0,vB 0,vB 0,vB 0]:=by unfold TyOK;kernel_rfl
theorem ty344:TyOK Tryz.prog 344 (.st [(0,1,3),(1,1,3),(2,3,36),(5,1,4),(6,6,96)]) 12 48 [vI 0,vI 0,vF,vU 0,vU 0,vF,vB 0,vB 0,vB 0,vB 0,vB 0,vB 0]:=by unfold TyOK;kernel_rfl
theorem ty367:TyOK Tryz.prog 367 (.int .u64) 1 8 [vU 0]:=by unfold TyOK;kernel_rfl
theorem ty385:TyOK Tryz.prog 385 (.ptr 5) 1 8 [.base (.pointer none)]:=by unfold TyOK;kernel_rfl
theorem ty407:TyOK Tryz.prog 407 (.arr 2 3) 2 16 [vI 0,vI 0]:=by unfold TyOK;kernel_rfl
theorem ty408:TyOK Tryz.prog 408 (.arr 2 407) 4 32 [vI 0,vI 0,vI 0,vI 0]:=by unfold TyOK;kernel_rfl
theorem ty413:TyOK Tryz.prog 413 (.ptr 367) 1 8 [.base (.pointer none)]:=by unfold TyOK;kernel_rfl
theorem ty421:TyOK Tryz.prog 421 (.arr 8 34) 8 64 [vU 0,vU 0,vU 0,vU 0,vU 0,vU 0,vU 0,vU 0]:=by unfold TyOK;kernel_rfl
theorem ty425:TyOK Tryz.prog 425 (.sl 84) 1 24 [.nils]:=by unfold TyOK;kernel_rfl
theorem ty439:TyOK Tryz.prog 439 (.int .u16) 1 2 [.base (.int .u16 0)]:=by unfold TyOK;kernel_rfl
theorem ty452:TyOK Tryz.prog 452 (.ptr 448) 1 8 [.base (.pointer none)]:=by unfold TyOK;kernel_rfl
theorem ty454:TyOK Tryz.prog 454 (.arr 24 5) 24 24 [vB 0,vB 0,vB 0,vB 0,vB 0,vB 0,vB 0,vB 0,vB 0,vB 0,vB 0,vB 0,vB 0,vB 0,vB 0,vB 0,vB 0,vB 0,vB 0,vB 0,vB 0,vB 0,vB 0,vB 0]:=by unfold TyOK;kernel_rfl
theorem ty463:TyOK Tryz.prog 463 (.arr 20 34) 20 160 [vU 0,vU 0,vU 0,vU 0,vU 0,vU 0,vU 0,vU 0,vU 0,vU 0,vU 0,vU 0,vU 0,vU 0,vU 0,vU 0,vU 0,vU 0,vU 0,vU 0]:=by unfold TyOK;kernel_rfl
theorem ty466:TyOK Tryz.prog 466 (.st [(0,1,5),(1,1,5)]) 2 2 [vB 0,vB 0]:=by unfold TyOK;kernel_rfl
theorem ty467:TyOK Tryz.prog 467 (.st [(0,1,5),(1,1,5)]) 2 2 [vB 0,vB 0]:=by unfold TyOK;kernel_rfl
theorem ty468:TyOK Tryz.prog 468 (.arr 16 467) 32 32 [vB 0,vB 0,vB 0,vB 0,vB 0,vB 0,vB 0,vB 0,vB 0,vB 0,vB 0,vB 0,vB 0,vB 0,vB 0,vB 0,vB 0,vB 0,vB 0,vB 0,vB 0,vB 0,vB 0,vB 0,vB 0,vB 0,vB 0,vB 0,vB 0,vB 0,vB 0,vB 0]:=by unfold TyOK;kernel_rfl
theorem ty473:TyOK Tryz.prog 473 (.int .i64) 1 8 [vI 0]:=by unfold TyOK;kernel_rfl
theorem ty476:TyOK Tryz.prog 476 (.ptr 483) 1 8 [.base (.pointer none)]:=by unfold TyOK;kernel_rfl
theorem ty486:TyOK Tryz.prog 486 (.arr 32 5) 32 32 [vB 0,vB 0,vB 0,vB 0,vB 0,vB 0,vB 0,vB 0,vB 0,vB 0,vB 0,vB 0,vB 0,vB 0,vB 0,vB 0,vB 0,vB 0,vB 0,vB 0,vB 0,vB 0,vB 0,vB 0,vB 0,vB 0,vB 0,vB 0,vB 0,vB 0,vB 0,vB 0]:=by unfold TyOK;kernel_rfl
theorem ty487:TyOK Tryz.prog 487 (.arr 64 5) 64 64 [vB 0,vB 0,vB 0,vB 0,vB 0,vB 0,vB 0,vB 0,vB 0,vB 0,vB 0,vB 0,vB 0,vB 0,vB 0,vB 0,vB 0,vB 0,vB 0,vB 0,vB 0,vB 0,vB 0,vB 0,vB 0,vB 0,vB 0,vB 0,vB 0,vB 0,vB 0,vB 0,vB 0,vB 0,vB 0,vB 0,vB 0,vB 0,vB 0,vB 0,vB 0,vB 0,vB 0,vB 0,vB 0,vB 0,vB 0,vB 0,vB 0,vB 0,vB 0,vB 0,vB 0,vB 0,vB 0,vB 0,vB 0,vB 0,vB 0,vB 0,vB 0,vB 0,vB 0,vB 0]:=by unfold TyOK;kernel_rfl
theorem ty489:TyOK Tryz.prog 489 (.ptr 491) 1 8 [.base (.pointer none)]:=by unfold TyOK;kernel_rfl
theorem ty490:TyOK Tryz.prog 490 (.st [(0,1,9)]) 1 16 [.base (.string ⟨#[]⟩)]:=by unfold TyOK;kernel_rfl
theorem ty491:TyOK Tryz.prog 491 (.st [(0,1,9)]) 1 16 [.base (.string ⟨#[]⟩)]:=by unfold TyOK;kernel_rfl
theorem ty492:TyOK Tryz.prog 492 (.st [(0,1,17),(1,1,17),(2,1,17),(3,1,9)]) 4 40 [.base (.pointer none),.base (.pointer none),.base (.pointer none),.base (.string ⟨#[]⟩)]:=by unfold TyOK;kernel_rfl
theorem ty493:TyOK Tryz.prog 493 (.st [(0,1,17),(1,1,17),(2,1,17),(3,1,9)]) 4 40 [.base (.pointer none),.base (.pointer none),.base (.pointer none),.base (.string ⟨#[]⟩)]:=by unfold TyOK;kernel_rfl
theorem ty494:TyOK Tryz.prog 494 (.arr 0 16) 0 0 []:=by unfold TyOK;kernel_rfl
theorem ty495:TyOK Tryz.prog 495 (.st [(0,0,494)]) 0 0 []:=by unfold TyOK;kernel_rfl
theorem ty496:TyOK Tryz.prog 496 (.st [(0,0,494)]) 0 0 []:=by unfold TyOK;kernel_rfl
theorem ty497:TyOK Tryz.prog 497 (.int .u8) 1 1 [vB 0]:=by unfold TyOK;kernel_rfl
theorem ty498:TyOK Tryz.prog 498 (.int .u8) 1 1 [vB 0]:=by unfold TyOK;kernel_rfl
theorem ty500:TyOK Tryz.prog 500 (.int .i32) 1 4 [.base (.int .i32 0)]:=by unfold TyOK;kernel_rfl
theorem ty501:TyOK Tryz.prog 501 (.int .i32) 1 4 [.base (.int .i32 0)]:=by unfold TyOK;kernel_rfl
theorem fok5:FnOK Tryz.prog 5:=⟨Tryz.f5,Tryz.func5,by kernel_rfl,by kernel_rfl⟩
theorem fok6:FnOK Tryz.prog 6:=⟨Tryz.f6,Tryz.func6,by kernel_rfl,by kernel_rfl⟩
theorem fok7:FnOK Tryz.prog 7:=⟨Tryz.f7,Tryz.func7,by kernel_rfl,by kernel_rfl⟩
theorem fok8:FnOK Tryz.prog 8:=⟨Tryz.f8,Tryz.func8,by kernel_rfl,by kernel_rfl⟩
theorem fok9:FnOK Tryz.prog 9:=⟨Tryz.f9,Tryz.func9,by kernel_rfl,by kernel_rfl⟩
theorem fok10:FnOK Tryz.prog 10:=⟨Tryz.f10,Tryz.func10,by kernel_rfl,by kernel_rfl⟩
theorem fok11:FnOK Tryz.prog 11:=⟨Tryz.f11,Tryz.func11,by kernel_rfl,by kernel_rfl⟩
theorem fok12:FnOK Tryz.prog 12:=⟨Tryz.f12,Tryz.func12,by kernel_rfl,by kernel_rfl⟩
theorem fok18:FnOK Tryz.prog 18:=⟨Tryz.f18,Tryz.func18,by kernel_rfl,by kernel_rfl⟩
theorem fok20:FnOK Tryz.prog 20:=⟨Tryz.f20,Tryz.func20,by kernel_rfl,by kernel_rfl⟩
theorem fok21:FnOK Tryz.prog 21:=⟨Tryz.f21,Tryz.func21,by kernel_rfl,by kernel_rfl⟩
theorem fok22:FnOK Tryz.prog 22:=⟨Tryz.f22,Tryz.func22,by kernel_rfl,by kernel_rfl⟩
theorem fok23:FnOK Tryz.prog 23:=⟨Tryz.f23,Tryz.func23,by kernel_rfl,by kernel_rfl⟩
theorem fok24:FnOK Tryz.prog 24:=⟨Tryz.f24,Tryz.func24,by kernel_rfl,by kernel_rfl⟩
theorem fok25:FnOK Tryz.prog 25:=⟨Tryz.f25,Tryz.func25,by kernel_rfl,by kernel_rfl⟩
theorem fok26:FnOK Tryz.prog 26:=⟨Tryz.f26,Tryz.func26,by kernel_rfl,by kernel_rfl⟩
theorem fok27:FnOK Tryz.prog 27:=⟨Tryz.f27,Tryz.func27,by kernel_rfl,by kernel_rfl⟩
theorem fok28:FnOK Tryz.prog 28:=⟨Tryz.f28,Tryz.func28,by kernel_rfl,by kernel_rfl⟩
theorem fok29:FnOK Tryz.prog 29:=⟨Tryz.f29,Tryz.func29,by kernel_rfl,by kernel_rfl⟩
theorem fok30:FnOK Tryz.prog 30:=⟨Tryz.f30,Tryz.func30,by kernel_rfl,by kernel_rfl⟩
theorem fok31:FnOK Tryz.prog 31:=⟨Tryz.f31,Tryz.func31,by kernel_rfl,by kernel_rfl⟩
theorem fok37:FnOK Tryz.prog 37:=⟨Tryz.f37,Tryz.func37,by kernel_rfl,by kernel_rfl⟩
theorem fok38:FnOK Tryz.prog 38:=⟨Tryz.f38,Tryz.func38,by kernel_rfl,by kernel_rfl⟩
theorem fok39:FnOK Tryz.prog 39:=⟨Tryz.f39,Tryz.func39,by kernel_rfl,by kernel_rfl⟩
theorem fok42:FnOK Tryz.prog 42:=⟨Tryz.f42,Tryz.func42,by kernel_rfl,by kernel_rfl⟩
theorem fok46:FnOK Tryz.prog 46:=⟨Tryz.f46,Tryz.func46,by kernel_rfl,by kernel_rfl⟩
theorem fok47:FnOK Tryz.prog 47:=⟨Tryz.f47,Tryz.func47,by kernel_rfl,by kernel_rfl⟩
theorem fok49:FnOK Tryz.prog 49:=⟨Tryz.f49,Tryz.func49,by kernel_rfl,by kernel_rfl⟩
theorem fok50:FnOK Tryz.prog 50:=⟨Tryz.f50,Tryz.func50,by kernel_rfl,by kernel_rfl⟩
theorem fok54:FnOK Tryz.prog 54:=⟨Tryz.f54,Tryz.func54,by kernel_rfl,by kernel_rfl⟩
theorem fok55:FnOK Tryz.prog 55:=⟨Tryz.f55,Tryz.func55,by kernel_rfl,by kernel_rfl⟩
theorem fok57:FnOK Tryz.prog 57:=⟨Tryz.f57,Tryz.func57,by kernel_rfl,by kernel_rfl⟩
theorem fok61:FnOK Tryz.prog 61:=⟨Tryz.f61,Tryz.func61,by kernel_rfl,by kernel_rfl⟩
theorem fok69:FnOK Tryz.prog 69:=⟨Tryz.f69,Tryz.func69,by kernel_rfl,by kernel_rfl⟩
theorem fok70:FnOK Tryz.prog 70:=⟨Tryz.f70,Tryz.func70,by kernel_rfl,by kernel_rfl⟩
theorem fok71:FnOK Tryz.prog 71:=⟨Tryz.f71,Tryz.func71,by kernel_rfl,by kernel_rfl⟩
theorem fok72:FnOK Tryz.prog 72:=⟨Tryz.f72,Tryz.func72,by kernel_rfl,by kernel_rfl⟩
theorem fok73:FnOK Tryz.prog 73:=⟨Tryz.f73,Tryz.func73,by kernel_rfl,by kernel_rfl⟩
theorem fok74:FnOK Tryz.prog 74:=⟨Tryz.f74,Tryz.func74,by kernel_rfl,by kernel_rfl⟩
theorem fok75:FnOK Tryz.prog 75:=⟨Tryz.f75,Tryz.func75,by kernel_rfl,by kernel_rfl⟩
theorem fok76:FnOK Tryz.prog 76:=⟨Tryz.f76,Tryz.func76,by kernel_rfl,by kernel_rfl⟩
theorem fok77:FnOK Tryz.prog 77:=⟨Tryz.f77,Tryz.func77,by kernel_rfl,by kernel_rfl⟩
theorem fok78:FnOK Tryz.prog 78:=⟨Tryz.f78,Tryz.func78,by kernel_rfl,by kernel_rfl⟩
theorem fok79:FnOK Tryz.prog 79:=⟨Tryz.f79,Tryz.func79,by kernel_rfl,by kernel_rfl⟩
theorem fok80:FnOK Tryz.prog 80:=⟨Tryz.f80,Tryz.func80,by kernel_rfl,by kernel_rfl⟩
theorem fok81:FnOK Tryz.prog 81:=⟨Tryz.f81,Tryz.func81,by kernel_rfl,by kernel_rfl⟩
theorem fok82:FnOK Tryz.prog 82:=⟨Tryz.f82,Tryz.func82,by kernel_rfl,by kernel_rfl⟩
theorem fok83:FnOK Tryz.prog 83:=⟨Tryz.f83,Tryz.func83,by kernel_rfl,by kernel_rfl⟩
theorem fok84:FnOK Tryz.prog 84:=⟨Tryz.f84,Tryz.func84,by kernel_rfl,by kernel_rfl⟩
theorem fok85:FnOK Tryz.prog 85:=⟨Tryz.f85,Tryz.func85,by kernel_rfl,by kernel_rfl⟩
theorem fok86:FnOK Tryz.prog 86:=⟨Tryz.f86,Tryz.func86,by kernel_rfl,by kernel_rfl⟩
theorem fok87:FnOK Tryz.prog 87:=⟨Tryz.f87,Tryz.func87,by kernel_rfl,by kernel_rfl⟩
theorem fok88:FnOK Tryz.prog 88:=⟨Tryz.f88,Tryz.func88,by kernel_rfl,by kernel_rfl⟩
theorem fok89:FnOK Tryz.prog 89:=⟨Tryz.f89,Tryz.func89,by kernel_rfl,by kernel_rfl⟩
theorem fok90:FnOK Tryz.prog 90:=⟨Tryz.f90,Tryz.func90,by kernel_rfl,by kernel_rfl⟩
theorem fok91:FnOK Tryz.prog 91:=⟨Tryz.f91,Tryz.func91,by kernel_rfl,by kernel_rfl⟩
theorem fok92:FnOK Tryz.prog 92:=⟨Tryz.f92,Tryz.func92,by kernel_rfl,by kernel_rfl⟩
theorem fok112:FnOK Tryz.prog 112:=⟨Tryz.f112,Tryz.func112,by kernel_rfl,by kernel_rfl⟩
theorem fok113:FnOK Tryz.prog 113:=⟨Tryz.f113,Tryz.func113,by kernel_rfl,by kernel_rfl⟩
theorem fok114:FnOK Tryz.prog 114:=⟨Tryz.f114,Tryz.func114,by kernel_rfl,by kernel_rfl⟩
theorem fok117:FnOK Tryz.prog 117:=⟨Tryz.f117,Tryz.func117,by kernel_rfl,by kernel_rfl⟩
theorem fok118:FnOK Tryz.prog 118:=⟨Tryz.f118,Tryz.func118,by kernel_rfl,by kernel_rfl⟩
theorem fok119:FnOK Tryz.prog 119:=⟨Tryz.f119,Tryz.func119,by kernel_rfl,by kernel_rfl⟩
theorem fok124:FnOK Tryz.prog 124:=⟨Tryz.f124,Tryz.func124,by kernel_rfl,by kernel_rfl⟩
theorem fok125:FnOK Tryz.prog 125:=⟨Tryz.f125,Tryz.func125,by kernel_rfl,by kernel_rfl⟩
theorem fok132:FnOK Tryz.prog 132:=⟨Tryz.f132,Tryz.func132,by kernel_rfl,by kernel_rfl⟩
theorem fok133:FnOK Tryz.prog 133:=⟨Tryz.f133,Tryz.func133,by kernel_rfl,by kernel_rfl⟩
theorem fok134:FnOK Tryz.prog 134:=⟨Tryz.f134,Tryz.func134,by kernel_rfl,by kernel_rfl⟩
theorem fok135:FnOK Tryz.prog 135:=⟨Tryz.f135,Tryz.func135,by kernel_rfl,by kernel_rfl⟩
theorem fok136:FnOK Tryz.prog 136:=⟨Tryz.f136,Tryz.func136,by kernel_rfl,by kernel_rfl⟩
theorem fok137:FnOK Tryz.prog 137:=⟨Tryz.f137,Tryz.func137,by kernel_rfl,by kernel_rfl⟩
theorem fok138:FnOK Tryz.prog 138:=⟨Tryz.f138,Tryz.func138,by kernel_rfl,by kernel_rfl⟩
theorem fok144:FnOK Tryz.prog 144:=⟨Tryz.f144,Tryz.func144,by kernel_rfl,by kernel_rfl⟩
theorem fok145:FnOK Tryz.prog 145:=⟨Tryz.f145,Tryz.func145,by kernel_rfl,by kernel_rfl⟩
theorem fok146:FnOK Tryz.prog 146:=⟨Tryz.f146,Tryz.func146,by kernel_rfl,by kernel_rfl⟩
theorem fok147:FnOK Tryz.prog 147:=⟨Tryz.f147,Tryz.func147,by kernel_rfl,by kernel_rfl⟩
theorem fok148:FnOK Tryz.prog 148:=⟨Tryz.f148,Tryz.func148,by kernel_rfl,by kernel_rfl⟩
theorem fok149:FnOK Tryz.prog 149:=⟨Tryz.f149,Tryz.func149,by kernel_rfl,by kernel_rfl⟩
theorem fok150:FnOK Tryz.prog 150:=⟨Tryz.f150,Tryz.func150,by kernel_rfl,by kernel_rfl⟩
theorem fok151:FnOK Tryz.prog 151:=⟨Tryz.f151,Tryz.func151,by kernel_rfl,by kernel_rfl⟩
theorem fok152:FnOK Tryz.prog 152:=⟨Tryz.f152,Tryz.func152,by kernel_rfl,by kernel_rfl⟩
theorem fok153:FnOK Tryz.prog 153:=⟨Tryz.f153,Tryz.func153,by kernel_rfl,by kernel_rfl⟩
theorem fok154:FnOK Tryz.prog 154:=⟨Tryz.f154,Tryz.func154,by kernel_rfl,by kernel_rfl⟩
theorem fok169:FnOK Tryz.prog 169:=⟨Tryz.f169,Tryz.func169,by kernel_rfl,by kernel_rfl⟩
theorem fok170:FnOK Tryz.prog 170:=⟨Tryz.f170,Tryz.func170,by kernel_rfl,by kernel_rfl⟩
theorem fok197:FnOK Tryz.prog 197:=⟨Tryz.f197,Tryz.func197,by kernel_rfl,by kernel_rfl⟩
theorem fok198:FnOK Tryz.prog 198:=⟨Tryz.f198,Tryz.func198,by kernel_rfl,by kernel_rfl⟩
theorem fok209:FnOK Tryz.prog 209:=⟨Tryz.f209,Tryz.func209,by kernel_rfl,by kernel_rfl⟩
theorem fok210:FnOK Tryz.prog 210:=⟨Tryz.f210,Tryz.func210,by kernel_rfl,by kernel_rfl⟩
theorem fok211:FnOK Tryz.prog 211:=⟨Tryz.f211,Tryz.func211,by kernel_rfl,by kernel_rfl⟩
theorem fok212:FnOK Tryz.prog 212:=⟨Tryz.f212,Tryz.func212,by kernel_rfl,by kernel_rfl⟩
theorem fok214:FnOK Tryz.prog 214:=⟨Tryz.f214,Tryz.func214,by kernel_rfl,by kernel_rfl⟩
theorem fok215:FnOK Tryz.prog 215:=⟨Tryz.f215,Tryz.func215,by kernel_rfl,by kernel_rfl⟩
theorem fok217:FnOK Tryz.prog 217:=⟨Tryz.f217,Tryz.func217,by kernel_rfl,by kernel_rfl⟩
theorem fok218:FnOK Tryz.prog 218:=⟨Tryz.f218,Tryz.func218,by kernel_rfl,by kernel_rfl⟩
theorem fok219:FnOK Tryz.prog 219:=⟨Tryz.f219,Tryz.func219,by kernel_rfl,by kernel_rfl⟩
theorem fok220:FnOK Tryz.prog 220:=⟨Tryz.f220,Tryz.func220,by kernel_rfl,by kernel_rfl⟩
theorem fok284:FnOK Tryz.prog 284:=⟨Tryz.f284,Tryz.func284,by kernel_rfl,by kernel_rfl⟩
theorem fok285:FnOK Tryz.prog 285:=⟨Tryz.f285,Tryz.func285,by kernel_rfl,by kernel_rfl⟩
theorem fok288:FnOK Tryz.prog 288:=⟨Tryz.f288,Tryz.func288,by kernel_rfl,by kernel_rfl⟩
theorem fok289:FnOK Tryz.prog 289:=⟨Tryz.f289,Tryz.func289,by kernel_rfl,by kernel_rfl⟩
theorem fok292:FnOK Tryz.prog 292:=⟨Tryz.f292,Tryz.func292,by kernel_rfl,by kernel_rfl⟩
theorem fok343:FnOK Tryz.prog 343:=⟨Tryz.f343,Tryz.func343,by kernel_rfl,by kernel_rfl⟩
theorem fok443:FnOK Tryz.prog 443:=⟨Tryz.f443,Tryz.func443,by kernel_rfl,by kernel_rfl⟩
theorem fok444:FnOK Tryz.prog 444:=⟨Tryz.f444,Tryz.func444,by kernel_rfl,by kernel_rfl⟩
theorem fok445:FnOK Tryz.prog 445:=⟨Tryz.f445,Tryz.func445,by kernel_rfl,by kernel_rfl⟩
theorem mixed:Tryz.prog.follows .mixedOrders=true:=by kernel_rfl
theorem tmod_pos (v n:Int) (hn:1≤n):-n < v.tmod n∧v.tmod n < n∧v % n=if v.tmod n < 0 then v.tmod n + n else v.tmod n:=by
 have h0:=Int.emod_nonneg v (show n≠0 by omega)
 have h1:=Int.emod_lt_of_pos v (show 0 < n by omega)
 rw [Int.tmod_eq_emod]
 have h3:(n.natAbs:Int)=n:=by omega
 split
 ·refine ⟨by omega,by omega,?_⟩
  rw [if_neg (by omega)];omega
 ·rename_i h
  have h2:v % n≠0:=fun e=>h (.inr (Int.dvd_of_emod_eq_zero e))
  refine ⟨by omega,by omega,?_⟩
  rw [if_pos (by omega)];omega
theorem mod_any (v n:Int) (hn:1≤n) (hn2:n≤9223372036854775807):AFn Tryz.prog 8 0 [.base (.int .i64 v),.base (.int .i64 n)] mt (.base (.int .i64 (v % n))) mt:=by
 refine AFn.eq Tryz.func8 rfl rfl (Nat.le_of_ble_eq_true rfl) ?_
 obtain ⟨h1,h2,h3⟩:=tmod_pos v n hn
 refine Wq<|qW 0 1 rfl<|qA rfl<|Nl<|Wq<|qW 5 9 rfl<|qM rfl<|qM rfl<|Od rfl rfl (LO.rem rfl rfl rfl (by omega))<|qA rfl<|Nl<|Wq<|Wq<|qW 13 15 rfl<|qM rfl<|qK rfl<|Nl<|W.cond rfl (fun hb=>?_) (fun hb=>?_)
 ·have hb:v.tmod n < 0:=of_decide_eq_true hb
  refine qW 19 23 rfl<|qM rfl<|qM rfl<|qZ rfl (iW _ (by omega))<|qA rfl<|Nl<|Wq<|qW 27 29 rfl<|qM rfl<|qA rfl<|Nl<|Wz ⟨.inl rfl,_,mt,Rc (Rt0 rfl) (Rv),aM,?_⟩
  exact ⟨by rw [h3,if_pos hb];rfl,rfl⟩
 ·have hb:¬ v.tmod n < 0:=of_decide_eq_false hb
  refine Wu<|Wq<|qW 27 29 rfl<|qM rfl<|qA rfl<|Nl<|Wz ⟨.inl rfl,_,mt,Rc (Rt0 rfl) (Rv),aM,?_⟩
  exact ⟨by rw [h3,if_neg hb];rfl,rfl⟩
def deckC (l:List Int) (at_:Nat):List AV:=[.isl (l.map fun z=>.base (.int .i64 z)) l.length,.base (.int .i64 (at_:Int))]
def nextV (l:List Int) (at_:Nat) (n:Int):Int:=if h:at_ < l.length then l[at_] % n else 0
def nextAt (l:List Int) (at_:Nat):Nat:=if at_ < l.length then at_ + 1 else at_
theorem next_any (l:List Int) (at_:Nat) (n:Int) (hn:1≤n) (hn2:n≤9223372036854775807) (hl:l.length≤9223372036854775807) :
 AFn Tryz.prog 21 1 [.own 0 0,.base (.int .i64 n)] (up mt 0 (some (deckC l at_))) (.base (.int .i64 (nextV l at_ n))) (up mt 0 (some (deckC l (nextAt l at_)))):=by
 refine AFn.eq Tryz.func21 rfl rfl (Nat.le_of_ble_eq_true rfl) ?_
 unfold deckC
 refine Wq<|qW 1 2 rfl<|qA rfl<|Nl<|Wq<|Wq<|Wd 6 16 (by decide) rfl mixed rfl<|qM rfl<|Od rfl rfl (Nc rfl rfl)<|qF rfl ty70 rfl<|qL rfl ty3 rfl<|qM rfl<|Od rfl rfl (Nc rfl rfl)<|qF rfl ty70 rfl<|qL rfl ty22 rfl<|qH rfl ty22<|qGe rfl<|Nl ⟨by kernel_rfl,(W.cond rfl (fun hb=>?_) (fun hb=>?_))⟩
 ·have hb:¬ at_ < l.length:=by have:=of_decide_eq_true hb;omega
  refine Wq<|qW 20 21 rfl<|qA rfl<|Nl<|Wz ⟨.inl rfl,_,up mt 0 (some (deckC l at_)),Rc (Rt0 rfl) Rv,aU rfl aM,?_⟩
  exact ⟨by unfold nextV;rw [dif_neg hb];rfl,by unfold nextAt deckC;rw [if_neg hb]⟩
 ·have hb:at_ < l.length:=by have:=of_decide_eq_false hb;omega
  refine Wu ?_
  have he:(at_:Int) + 1 - 1=(at_:Int):=by omega
  refine Wq<|qW 25 33 rfl<|qM rfl<|Od rfl rfl (Nc rfl rfl)<|qF rfl ty70 rfl<|qL rfl ty3 rfl<|qZ rfl (iW _ (by omega))<|Od rfl rfl (Nc rfl rfl)<|qF rfl ty70 rfl<|qS rfl ty3 (Sl rfl) rfl<|Nl ?_
  have hg:(l.map fun z=>AV.base (.int .i64 z))[at_ * 1]?=some (.base (.int .i64 l[at_])):=by simp [hb]
  refine Wq<|Wd 37 51 (by decide) rfl mixed rfl<|qM rfl<|Od rfl rfl (Nc rfl rfl)<|qF rfl ty70 rfl<|qL rfl ty22 rfl<|qM rfl<|Od rfl rfl (Nc rfl rfl)<|qF rfl ty70 rfl<|qL rfl ty3 rfl<|Od rfl rfl (LO.sub_in rfl rfl rfl (iW _ (by omega)))<|qJ rfl he ty22 ty3 (by omega)<|Od rfl rfl (Li rfl rfl hg ty3 rfl)<|qM rfl<|qY rfl (mod_any _ _ hn hn2) fok8 rfl<|qA rfl<|Nl ⟨by kernel_rfl,(Wz ⟨.inl rfl,_,up mt 0 (some (deckC l (at_ + 1))),Rc (Rt0 rfl) Rv,aU rfl aM,?_⟩)⟩
  exact ⟨by unfold nextV;rw [dif_pos hb];rfl,by unfold nextAt deckC;rw [if_pos hb]⟩
theorem new_any (l:List Int):AFn Tryz.prog 5 0 [.isl (l.map fun z=>.base (.int .i64 z)) l.length] mt (.own 0 0) (up mt 0 (some (deckC l 0))):=by
 refine AFn.eq Tryz.func5 rfl rfl (Nat.le_of_ble_eq_true rfl) ?_
 unfold deckC
 refine Wq<|qW 0 1 rfl<|qA rfl<|Nl<|Wq<|qW 5 9 rfl<|qM rfl<|Od rfl rfl (Bs rfl ty70 (.cons rfl rfl rfl rfl (Sl rfl) .nil))<|qC rfl<|qA rfl<|Nl<|W.rename [(0,7)] 1 (T':=up mt 2 (some (.own 0 0))) (H':=up mt 0 (some (deckC l 0))) (by decide) (aU (.inr ⟨rfl,fun _ h=>by cases h⟩) aM) (aU ⟨rfl,_,rfl,.inr ⟨rfl,rfl⟩⟩ aM) (Wz ⟨.inl rfl,_,up mt 0 (some (deckC l 0)),Rc (Rt0 rfl) Rv,aU rfl aM,?_⟩)
 exact ⟨rfl,rfl⟩
open Go.ChangeShapes Go.WideShapes Go.ChangeAt Go.RowKit
theorem Tryz.own:ownKnob Tryz.prog.godebug=none:=by kernel_rfl
theorem Tryz.laidOut:laidOutB Tryz.prog=true:=by kernel_rfl
theorem trodAll_stays {H:Type} {enc:TypeId × Value→H} {P:Program} (hl:laidOutB P=true) {W W':World} {sp':Nat→Bool} :
 ∀ {ts:List TypeId} {vs:List Value} {ds:List (DataW H)} {ps:List MemPlace},(∀ t∈ts,P.readableRec t=true∧t < P.types.size) →
  DataW.TrodAll enc P W 0 (fun _=>true) true ts vs ds ps→(∀ p∈ps,W.sameAt W' p)→(∀ p∈ps,sp' p.block=true)→DataW.TrodAll enc P W' 0 sp' true ts vs ds ps
 | [],[],[],_,_,h,_,_=>h
 | _::_,_::_,_::_,_,hT,⟨p,q,h1,h2,e⟩,hsame,hs =>
  ⟨p,q,WideElems.Trod_stays hl (hT _ (List.mem_cons.2 (Or.inl rfl))).1 (hT _ (List.mem_cons.2 (Or.inl rfl))).2 h1 (fun x hx=>hsame x (by rw [e];exact List.mem_append_left _ hx)) (fun x hx=>hs x (by rw [e];exact List.mem_append_left _ hx)),
   trodAll_stays hl (fun t ht=>hT t (List.mem_cons.2 (Or.inr ht))) h2 (fun x hx=>hsame x (by rw [e];exact List.mem_append_right _ hx)) (fun x hx=>hs x (by rw [e];exact List.mem_append_right _ hx)),e⟩
theorem law_post {H:Type} {enc:TypeId × Value→H} {P:Program} {f:Func} {s:ChangeSpec} {fresh handsOn again:Bool} {W W':World} {args:Array Value} {ds gs:List (DataW H)} {before:List MemPlace}
 (hl:laidOutB P=true) (hT:∀ t∈f.params.toList,P.readableRec t=true∧t < P.types.size) (tb:TypeId) (hb1:f.resultTypes=#[tb]) (hb2:P.underlying tb=some .bool) (hv:s.vars=[])
 (hW:DataW.Whole enc P f.params.toList s.vars false W args.toList ds gs before)
 (hs:(s.fn H (ds++gs)).results=[.lit (.bool true)]∧(s.fn H (ds++gs)).args=ds∧(s.fn H (ds++gs)).vars=[]) (hb:Below W.heap.size W W') :
 s.post enc P f false fresh handsOn again W args (.bool true) W':=by
 have hlt:∀ p∈before,p.block < W.heap.size:=fun p hp=>hW.lt p hp
 have hW0:=hW
 obtain ⟨p,q,hA,hV,rfl,hz,hn⟩:=hW
 rw [hv] at hV
 obtain ⟨rfl,rfl⟩:=trodVars_none hV
 have hsame:∀ x∈p,W.sameAt W' x:=fun x hx=>hb.same (hlt x (List.mem_append_left _ hx))
 have hres:∀ (b:Nat) (sp:Nat→Bool) (hd:Bool),DataW.TrodAll enc P W' b sp hd f.resultTypes.toList ((Value.bool true).resultList f.resultTypes.size) (s.fn H (ds++[])).results []:=by
  intro b sp hd
  rw [hb1,hs.1]
  exact trodAll_mk1 (shut_bool hb2 true)
 have hargs:∀ sp:Nat→Bool,(∀ x∈p++[],sp x.block=true)→DataW.TrodAll enc P W' 0 sp true f.params.toList args.toList (s.fn H (ds++[])).args p:=by
  intro sp hsp
  rw [hs.2.1]
  exact trodAll_stays hl hT hA hsame (fun x hx=>hsp x (List.mem_append_left _ hx))
 have hold:∀ x∈p++[],(fun b=>decide (b < W.heap.size)) x.block=true:=fun x hx=>by simpa using hlt x hx
 have hvs:∀ sp:Nat→Bool,DataW.TrodVars enc P W' sp s.vars (s.fn H (ds++[])).vars []:=by
  intro sp
  rw [hv,hs.2.2]
  simp [DataW.TrodVars]
 refine ⟨ds,[],p++[],[],p,[],hW0,hres _ _ _,hargs _ hold,hvs _,World.keptBut_mono (fun x hx=>⟨hx,?_⟩) (hb.frame (·∈p++[])),fun _=>?_⟩
 ·rw [List.mem_append] at hx
  exact Or.inr hx
 ·refine ⟨ok_one hb1 rfl (okWide_bool_mk hb2 true),_,_,([]++p)++[],⟨[]++p,[],trodAll_append (hargs _ (fun _ _=>rfl)) (hres _ _ _),hvs _,rfl,?_,?_⟩,?_⟩
  ·intro b off hp
   have hin:MemPlace.cell b off∈p++[]:=by simpa using hp
   rw [hb.frozen (hlt _ hin)]
   exact hz b off hin
  ·intro ha;cases ha
  ·intro x hx _
   simpa using hx
def accN (f:Nat→Int):Nat→Int
 | 0=>0
 | k + 1=>accN f k + (if k % 2=0 then f k * 256 else f k)
def foldS (n:Int):Int:=if n=0 then 0 else (n - 1) % 65535 + 1
def gB (bs:List Int) (k:Nat):Int:=bs.getD k 0
def accL (bs:List Int):Int:=accN (gB bs) bs.length
def sumL (bs:List Int):Int:=65535 - foldS (accL bs)
def IsB (bs:List Int):Prop:=∀ x∈bs,0≤x∧x≤255
theorem IsB.at {bs:List Int} (h:IsB bs) (k:Nat):0≤gB bs k∧gB bs k≤255:=by
 unfold gB
 by_cases hk:k < bs.length
 ·simp only [List.getD_eq_getElem?_getD,List.getElem?_eq_getElem hk,Option.getD_some]
  exact h _ (List.getElem_mem hk)
 ·simp [List.getElem?_eq_none (Nat.le_of_not_lt hk)]
theorem accN_bd (f:Nat→Int) (k:Nat) (h:∀ j,0≤f j∧f j≤255):0≤accN f k∧accN f k≤65280 * k:=by
 induction k with
 | zero=>simp [accN]
 | succ k ih =>
  have h2:=h k
  unfold accN
  split<;>omega
theorem foldS_small {n:Int} (h0:0≤n) (h:n≤65535):foldS n=n:=by
 unfold foldS;split<;>omega
theorem foldS_step {n:Int} (h:65535 < n):foldS (n / 65536 + n % 65536)=foldS n:=by
 unfold foldS;rw [if_neg (by omega),if_neg (by omega)];omega
structure Ad where
 v6:Bool
 hi:Int
 lo:Int
def validA (v6:Bool) (hi lo:Int):Bool:=v6 || (hi == 0 && decide (lo < 4294967296))
def fbStep (a:Int × Int) (x:Int):Int × Int:=(bits .or .u64 (IntKind.u64.wrap (a.1 * 256)) (a.2 / 72057594037927936),bits .or .u64 (IntKind.u64.wrap (a.2 * 256)) x)
def fb (bs:List Int):Int × Int:=bs.foldl fbStep (0,0)
theorem fb_snoc (bs:List Int) (k:Nat) (h:k < bs.length):fb (bs.take (k + 1))=fbStep (fb (bs.take k)) (gB bs k):=by
 unfold fb
 rw [List.take_succ_eq_append_getElem h,List.foldl_append]
 simp [gB,List.getD,h]
def U64 (x:Int):Prop:=0≤x∧x < 18446744073709551616
theorem u64_bits (op:BinOp) (x y:Int):U64 (bits op .u64 x y):=by
 have:=bounds_u64 (wf_bits op .u64 x y)
 unfold U64;omega
theorem fbStep_bd (a:Int × Int) (x:Int):U64 (fbStep a x).1∧U64 (fbStep a x).2:=by
 simp only [fbStep]
 exact ⟨u64_bits _ _ _,u64_bits _ _ _⟩
theorem fb_bd (bs:List Int):U64 (fb bs).1∧U64 (fb bs).2:=by
 unfold fb
 rw [← List.foldr_reverse]
 generalize bs.reverse=l
 cases l with
 | nil=>unfold U64;simp
 | cons x l =>
  simp only [List.foldr_cons]
  exact fbStep_bd _ _
def byteN (N:Int) (i:Nat):Int:=N / 256 ^ i % 256
def beN (n:Nat) (N:Int):List Int:=(List.range n).map fun p=>byteN N (n - 1 - p)
def addrB (v6:Bool) (hi lo:Int):List Int:=beN (if v6 then 16 else 4) (hi * 18446744073709551616 + lo)
theorem addrB_len (v6:Bool) (hi lo:Int):(addrB v6 hi lo).length=if v6 then 16 else 4:=by unfold addrB;simp [beN]
theorem byteN_bd (N:Int) (i:Nat):0≤byteN N i∧byteN N i≤255:=by unfold byteN;omega
theorem beN_len (n:Nat) (N:Int):(beN n N).length=n:=by simp [beN]
theorem beN_isB (n:Nat) (N:Int):IsB (beN n N):=by
 intro x hx
 simp only [beN,List.mem_map] at hx
 obtain ⟨p,_,rfl⟩:=hx
 exact byteN_bd _ _
theorem div_succ (N:Int) (j:Nat):N / 256 ^ (j + 1)=N / 256 ^ j / 256:=by
 rw [Int.pow_succ,Int.ediv_ediv_of_nonneg (Int.le_of_lt (Int.pow_pos (by decide)))]
def preB (n j:Nat) (N:Int):List Int:=(List.range j).map fun p=>byteN N (n - 1 - p)
theorem preB_len (n j:Nat) (N:Int):(preB n j N).length=j:=by simp [preB]
theorem preB_snoc (n j:Nat) (N:Int):preB n (j + 1) N=preB n j N++[byteN N (n - 1 - j)]:=by simp [preB,List.range_succ]
theorem byteN_at (hi lo:Int) (l1:0≤lo) (l2:lo < 18446744073709551616) (i:Nat) (h:i < 16) :
 (if 8≤i then hi else lo) / 2 ^ (8 * (i % 8)) % 256=byteN (hi * 18446744073709551616 + lo) i:=by
 unfold byteN
 obtain rfl|rfl|rfl|rfl|rfl|rfl|rfl|rfl|rfl|rfl|rfl|rfl|rfl|rfl|rfl|rfl:i=0∨i=1∨i=2∨i=3∨i=4∨i=5∨i=6∨i=7∨i=8∨i=9∨i=10∨i=11∨i=12∨i=13∨i=14∨i=15:=by omega
 all_goals (simp;try omega)
def hd4 (bs:List Int):Int:=gB bs 0 % 16 * 4
theorem u64_shl8 {a x:Int} (ha:U64 a) (hx:0≤x∧x≤255):bits .or .u64 (IntKind.u64.wrap (a * 256)) x=a % 72057594037927936 * 256 + x:=by
 have ha1:0≤a:=ha.1
 have e:IntKind.u64.wrap (a * 256)=a % 72057594037927936 * 256:=by rw [IntKind.wrap_u64];omega
 rw [e]
 obtain ⟨p,hp⟩:=Int.eq_ofNat_of_zero_le (show 0≤a % 72057594037927936 by omega)
 obtain ⟨q,hq⟩:=Int.eq_ofNat_of_zero_le hx.1
 rw [hp,hq]
 have hb1:(p:Int) * 256=((2 ^ 8 * p:Nat):Int):=by omega
 rw [hb1,u64_or_nat (2 ^ 8 * p) q (by omega) (by omega),← Nat.two_pow_add_eq_or_of_lt (i:=8) (by omega) p]
 omega
theorem fbStep_val {a:Int × Int} {x:Int} (h1:U64 a.1) (h2:U64 a.2) (hx:0≤x∧x≤255) :
 (fbStep a x).1 * 18446744073709551616 + (fbStep a x).2=((a.1 * 18446744073709551616 + a.2) * 256 + x) % 340282366920938463463374607431768211456:=by
 obtain ⟨h,l⟩:=a
 simp only at h1 h2
 have e1:(fbStep (h,l) x).1=h % 72057594037927936 * 256 + l / 72057594037927936:=u64_shl8 h1 (by unfold U64 at h2;omega)
 have e2:(fbStep (h,l) x).2=l % 72057594037927936 * 256 + x:=u64_shl8 h2 hx
 rw [e1,e2]
 unfold U64 at h1 h2
 simp only
 omega
theorem beN_take (n k:Nat) (N:Int) (h:k < n):gB (beN n N) k=byteN N (n - 1 - k):=by
 unfold gB beN
 simp [List.getD,h]
theorem pow_le_big {n:Nat} (h:n≤16):(256:Int) ^ n≤340282366920938463463374607431768211456:=by
 have:(256:Nat) ^ n≤256 ^ 16:=Nat.pow_le_pow_right (by omega) h
 have e:((256:Nat) ^ n:Int)=(256:Int) ^ n:=by simp
 omega
theorem fb_beN (n:Nat) (N:Int) (hn:n≤16) (h0:0≤N) (h1:N < 256 ^ n):∀ k,k≤n→(fb ((beN n N).take k)).1 * 18446744073709551616 + (fb ((beN n N).take k)).2=N / 256 ^ (n - k):=by
 have hb:=pow_le_big hn
 intro k
 induction k with
 | zero =>
  intro _
  simp [fb]
  rw [Int.ediv_eq_zero_of_lt h0 h1]
 | succ k ih =>
  intro hk
  have ihk:=ih (by omega)
  have hl:k < (beN n N).length:=by rw [beN_len];omega
  rw [fb_snoc _ _ hl]
  obtain ⟨b1,b2⟩:=fb_bd ((beN n N).take k)
  have hx:0≤gB (beN n N) k∧gB (beN n N) k≤255:=(beN_isB n N).at k
  rw [fbStep_val b1 b2 hx,ihk,beN_take n k N (by omega)]
  have e:n - k=(n - (k + 1)) + 1:=by omega
  have e2:n - 1 - k=n - (k + 1):=by omega
  rw [e,div_succ,e2]
  unfold byteN
  have hX0:0≤N / 256 ^ (n - (k + 1)):=Int.ediv_nonneg h0 (Int.le_of_lt (Int.pow_pos (by decide)))
  have hX1:N / 256 ^ (n - (k + 1))≤N:=Int.ediv_le_self _ h0
  generalize N / 256 ^ (n - (k + 1))=X at *
  omega
theorem fb_addrB {v6:Bool} {hi lo:Int} (hv:validA v6 hi lo=true) (h1:U64 hi) (h2:U64 lo):fb (addrB v6 hi lo)=(hi,lo):=by
 unfold U64 at h1 h2
 obtain ⟨b1,b2⟩:=fb_bd (addrB v6 hi lo)
 unfold U64 at b1 b2
 have hf:addrB v6 hi lo=beN (if v6 then 16 else 4) (hi * 18446744073709551616 + lo):=rfl
 rw [hf] at b1 b2 ⊢
 have key:(fb (beN (if v6 then 16 else 4) (hi * 18446744073709551616 + lo))).1 * 18446744073709551616 + (fb (beN (if v6 then 16 else 4) (hi * 18446744073709551616 + lo))).2=hi * 18446744073709551616 + lo:=by
  cases v6 with
  | true =>
   have hp:(256:Int) ^ 16=340282366920938463463374607431768211456:=by decide
   have:=fb_beN 16 (hi * 18446744073709551616 + lo) (by omega) (by omega) (by omega) 16 (by omega)
   rw [List.take_of_length_le (by rw [beN_len];omega)] at this
   simpa using this
  | false =>
   simp [validA] at hv
   have hp:(256:Int) ^ 4=4294967296:=by decide
   have:=fb_beN 4 (hi * 18446744073709551616 + lo) (by omega) (by omega) (by omega) 4 (by omega)
   rw [List.take_of_length_le (by rw [beN_len];omega)] at this
   simpa using this
 generalize fb (beN (if v6 then 16 else 4) (hi * 18446744073709551616 + lo))=r at *
 obtain ⟨x,y⟩:=r
 simp only at *
 have e1:x=hi:=by omega
 have e2:y=lo:=by omega
 rw [e1,e2]
def adC (a:Ad):List AV:=[.base (.bool a.v6),.base (.int .u64 a.hi),.base (.int .u64 a.lo)]
def bytesC (l:List Int):List AV:=l.map fun z=>.base (.int .u8 z)
theorem bytesC_pure (l:List Int):(bytesC l).all AV.pure1=true:=by
 induction l with
 | nil=>rfl
 | cons x l ih=>rw [show bytesC (x::l)=[.base (.int .u8 x)]++bytesC l from rfl,List.all_append,ih];rfl
theorem bytes_tk {l:List Int} {n:Nat} (h:l.length=n):Tk (bytesC l) 0 (n * 1) (bytesC l):=by
 have:=Tk.all (bytesC l)
 rwa [show (bytesC l).length=n * 1 from by simp [bytesC,h]] at this
theorem by_at {l:List Int} {k:Nat} (h:k < l.length):(bytesC l)[k * 1]?=some (.base (.int .u8 (gB l k))):=by simp [bytesC,gB,h]
theorem by_at0 {l:List Int} {k:Nat} (h:k < l.length):(bytesC l)[0 + k * 1]?=some (.base (.int .u8 (gB l k))):=by simp [bytesC,gB,h]
theorem bytesC_app (a b:List Int):bytesC (a++b)=bytesC a++bytesC b:=by simp [bytesC]
theorem bytesC_len (a:List Int):(bytesC a).length=a.length:=by simp [bytesC]
theorem avalid_any (a:Ad):AFn Tryz.prog 117 0 [.agg (adC a)] mt (.base (.bool (validA a.v6 a.hi a.lo))) mt:=by
 refine AFn.eq Tryz.func117 rfl rfl (Nat.le_of_ble_eq_true rfl) ?_
 unfold adC
 refine Wq<|qW 0 2 rfl<|qC rfl<|qA rfl<|Nl<|Wq<|qW 6 19 rfl<|qF rfl ty36 rfl<|qL rfl ty4 rfl<|qM rfl<|RW.split (t:=5) rfl (fun hb1=>?_) (fun hb1=>?_)
 ·
  try (have hb1p:=of_decide_eq_true hb1)
  try (have hb1q:=eq_of_beq hb1)
  refine qD rfl hb1 rfl<|qD rfl hb1 rfl<|qD rfl hb1 rfl<|qD rfl hb1 rfl<|Ud rfl rfl rfl rfl<|Ud rfl rfl rfl rfl<|Ud rfl rfl rfl rfl<|qD rfl hb1 rfl<|qT rfl hb1 rfl<|qA rfl<|Nl<|Wz ⟨.inl rfl,_,mt,Rc (Rt0 rfl) (Rv),aM,?_⟩
  exact ⟨by (simp_all [validA,retOf])<;>omega,rfl⟩
 ·
  try (have hb1p:=of_decide_eq_false hb1)
  try (have hb1q:=ne_of_beq_false hb1)
  refine gF rfl hb1 ty36 rfl<|gL rfl hb1 ty34 rfl<|gE rfl hb1<|gM rfl hb1<|RW.split (t:=9) rfl (fun hb2=>?_) (fun hb2=>?_)
  ·
   try (have hb2p:=of_decide_eq_true hb2)
   try (have hb2q:=eq_of_beq hb2)
   refine gF rfl hb2 ty36 rfl<|gL rfl hb2 ty34 rfl<|gK rfl hb2<|qU rfl hb1 rfl (Pt rfl rfl hb2 rfl)<|qP rfl hb1 rfl<|qA rfl<|Nl<|Wz ⟨.inl rfl,_,mt,Rc (Rt0 rfl) (Rv),aM,?_⟩
   exact ⟨by (simp_all [validA,retOf])<;>omega,rfl⟩
  ·
   try (have hb2p:=of_decide_eq_false hb2)
   try (have hb2q:=ne_of_beq_false hb2)
   refine qD rfl hb2 rfl<|qD rfl hb2 rfl<|qD rfl hb2 rfl<|qU rfl hb1 rfl (Pf0 rfl rfl hb2 rfl)<|qP rfl hb1 rfl<|qA rfl<|Nl<|Wz ⟨.inl rfl,_,mt,Rc (Rt0 rfl) (Rv),aM,?_⟩
   exact ⟨by (simp_all [validA,retOf])<;>omega,rfl⟩
theorem rvalid_any (a:Ad):AFn Tryz.prog 114 0 [.agg (adC a)] mt (.base (.bool (validA a.v6 a.hi a.lo))) mt:=by
 refine AFn.eq Tryz.func114 rfl rfl (Nat.le_of_ble_eq_true rfl) ?_
 unfold adC
 refine Wq<|qW 0 2 rfl<|qC rfl<|qA rfl<|Nl<|Wq<|qW 6 19 rfl<|qF rfl ty36 rfl<|qL rfl ty4 rfl<|qM rfl<|RW.split (t:=5) rfl (fun hb3=>?_) (fun hb3=>?_)
 ·
  try (have hb3p:=of_decide_eq_true hb3)
  try (have hb3q:=eq_of_beq hb3)
  refine qD rfl hb3 rfl<|qD rfl hb3 rfl<|qD rfl hb3 rfl<|qD rfl hb3 rfl<|Ud rfl rfl rfl rfl<|Ud rfl rfl rfl rfl<|Ud rfl rfl rfl rfl<|qD rfl hb3 rfl<|qT rfl hb3 rfl<|qA rfl<|Nl<|Wz ⟨.inl rfl,_,mt,Rc (Rt0 rfl) (Rv),aM,?_⟩
  exact ⟨by (simp_all [validA,retOf])<;>omega,rfl⟩
 ·
  try (have hb3p:=of_decide_eq_false hb3)
  try (have hb3q:=ne_of_beq_false hb3)
  refine gF rfl hb3 ty36 rfl<|gL rfl hb3 ty34 rfl<|gE rfl hb3<|gM rfl hb3<|RW.split (t:=9) rfl (fun hb4=>?_) (fun hb4=>?_)
  ·
   try (have hb4p:=of_decide_eq_true hb4)
   try (have hb4q:=eq_of_beq hb4)
   refine gF rfl hb4 ty36 rfl<|gL rfl hb4 ty34 rfl<|gK rfl hb4<|qU rfl hb3 rfl (Pt rfl rfl hb4 rfl)<|qP rfl hb3 rfl<|qA rfl<|Nl<|Wz ⟨.inl rfl,_,mt,Rc (Rt0 rfl) (Rv),aM,?_⟩
   exact ⟨by (simp_all [validA,retOf])<;>omega,rfl⟩
  ·
   try (have hb4p:=of_decide_eq_false hb4)
   try (have hb4q:=ne_of_beq_false hb4)
   refine qD rfl hb4 rfl<|qD rfl hb4 rfl<|qD rfl hb4 rfl<|qU rfl hb3 rfl (Pf0 rfl rfl hb4 rfl)<|qP rfl hb3 rfl<|qA rfl<|Nl<|Wz ⟨.inl rfl,_,mt,Rc (Rt0 rfl) (Rv),aM,?_⟩
   exact ⟨by (simp_all [validA,retOf])<;>omega,rfl⟩
structure Prt where
 id:Int
 sw:Int
 speed:Int
 macs:List (List Int)
 v4:Ad
 v6:Ad
structure Mem where
 asn:Int
 name:ByteArray
 set:ByteArray
 max4:Int
 max6:Int
 ports:List Prt
structure Pre where
 ad:Ad
 len:Int
structure Db where
 lan4:Pre
 lan6:Pre
 servers:List Mem
 members:List Mem
def macsC (l:List (List Int)):List AV:=l.flatMap bytesC
def prtC (p:Prt):List AV:=[.base (.int .i64 p.id),.base (.int .i64 p.sw),.base (.int .i64 p.speed),.isl (macsC p.macs) p.macs.length]++adC p.v4++adC p.v6
def prtsC (l:List Prt):List AV:=l.flatMap prtC
def memC (m:Mem):List AV:=[.base (.int .i64 m.asn),.base (.string m.name),.base (.string m.set),.base (.int .i64 m.max4),.base (.int .i64 m.max6),.isl (prtsC m.ports) m.ports.length]
def memsC (l:List Mem):List AV:=l.flatMap memC
def preC (p:Pre):List AV:=adC p.ad++[.base (.int .i64 p.len)]
def dbC (d:Db):List AV:=preC d.lan4++preC d.lan6++[.isl (memsC d.servers) d.servers.length,.isl (memsC d.members) d.members.length]
theorem flat_tk {α:Type} {c:α→List AV} {n:Nat} (hc:∀ x,(c x).length=n) {l:List α} {k:Nat} (h:k < l.length):Tk (l.flatMap c) (k * n) n (c l[k]):=by
 refine ⟨hc _,fun j d hj=>?_⟩
 have hjn:j < n:=by have:=(List.getElem?_eq_some_iff.1 hj).1;rwa [hc] at this
 induction l generalizing k with
 | nil=>simp at h
 | cons x l ih =>
  rw [List.flatMap_cons]
  cases k with
  | zero =>
   rw [Nat.zero_mul,Nat.zero_add,List.getElem?_append_left (by rw [hc];exact hjn)]
   simpa using hj
  | succ k =>
   rw [show (k + 1) * n + j=n + (k * n + j) from by rw [Nat.succ_mul];omega]
   rw [List.getElem?_append_right (by rw [hc];omega),hc,show n + (k * n + j) - n=k * n + j from by omega]
   exact ih (by simpa using h) (by simpa using hj)
theorem prts_tk {l:List Prt} {k:Nat} (h:k < l.length):Tk (prtsC l) (k * 10) 10 (prtC l[k]):=flat_tk (c:=prtC) (fun _=>rfl) h
theorem mems_tk {l:List Mem} {k:Nat} (h:k < l.length):Tk (memsC l) (k * 6) 6 (memC l[k]):=flat_tk (c:=memC) (fun _=>rfl) h
theorem rep_bases {X:Nat→Prop} {w:World} {φ:Em} {v:Value} {us:List Value} (h:Rep X w φ v (.agg (us.map AV.base))):v=.agg us.toArray:=by
 cases h with
 | agg vs _ hl h1 h =>
  have hl2:vs.size=us.length:=by simpa using hl
  congr 1
  refine Array.ext (by simpa using hl2) fun i h2 h3=>?_
  have h4:i < us.length:=by simpa using h3
  have:=h i vs[i] (.base us[i]) (by simp [h2]) (by simp [h4])
  simpa using this.base_eq
theorem LO.eq_bases {P:Program} {o:Oper} {E:Operand→Option AV} {H:Hp} {f:Nat} {t ty:TypeId} {x y:Operand} {r:Bool} (neg:Bool) (us vs:List Value) {xs ys:List AV} (ho:o.op=.binOp (if neg then .neq else .eql) t x y ty) (hx:E x=some (.agg xs)) (hy:E y=some (.agg ys)) (e1:xs=us.map AV.base) (e2:ys=vs.map AV.base)
 (hg:∀ w,(eqGuard (if neg then .neq else .eql) t x y (.agg us.toArray) (.agg vs.toArray)).run P w=.ok () w) (h:∀ w,(Op.equal t (.agg us.toArray) (.agg vs.toArray)).run P w=.ok r w):LO P o E H f [] [] (.base (.bool (if neg then !r else r))) H:=by
 subst e1 e2
 refine .pure fun X φ w ρ hR=>?_
 have h1:=rep_bases (hR x (by simp [ho,Op.operands]) _ hx)
 have h2:=rep_bases (hR y (by simp [ho,Op.operands]) _ hy)
 refine ⟨.bool (if neg then !r else r),?_,.base _⟩
 cases neg
 ·have hg2:=hg w
  simp only [Bool.false_eq_true,if_false] at hg2 ho
  simp [execOp,ho,h1,h2,hg2,Go.binOp,h]
 ·have hg2:=hg w
  simp only [if_true] at hg2 ho
  simp [execOp,ho,h1,h2,hg2,Go.binOp,h]
theorem guard_run {t:TypeId} {us vs:Array Value} (x y:Operand) (b:Bool) (h:Tryz.prog.eqGuardType Tryz.prog.depth t=false) (w:World):(eqGuard (if b then .neq else .eql) t x y (.agg us) (.agg vs)).run Tryz.prog w=.ok () w:=by
 cases b<;>simp [eqGuard,h]
def eqA (a b:Ad):Bool:=a.v6 == b.v6 && (a.hi == b.hi && a.lo == b.lo)
theorem eqAd_in (d:Nat) (a b:Ad) (w:World):(Op.equalIn (d + 2) 36 (.agg #[.bool a.v6,.int .u64 a.hi,.int .u64 a.lo]) (.agg #[.bool b.v6,.int .u64 b.hi,.int .u64 b.lo])).run Tryz.prog w=.ok (eqA a b) w:=by
 rw [run_equalIn_struct w (d + 1) 36 _ _ (by kernel_rfl) (by kernel_rfl)]
 have hu:=Tryz.underlying36
 have hb:=Tryz.underlying4
 have hi:=Tryz.underlying34
 simp [Program.fieldsOf,hu,Op.eqFields,part,isAgg,run_underlying hb,run_underlying hi,run_equalIn_bool' _ _ _ _ _ hb,run_equalIn_int _ _ _ _ _ _ _ hi]
 unfold eqA
 by_cases h1:a.v6=b.v6<;>by_cases h2:a.hi=b.hi<;>by_cases h3:a.lo=b.lo<;>simp [h1,h2,h3]
theorem eqMac_in (d:Nat) {a b:List Int} (ha:a.length=6) (hb:b.length=6) (w:World):(Op.equalIn (d + 2) 96 (.agg (a.map (Value.int .u8)).toArray) (.agg (b.map (Value.int .u8)).toArray)).run Tryz.prog w=.ok (decide (a=b)) w:=by
 have hu:=Tryz.underlying96
 have hi:=Tryz.underlying5
 match a,ha,b,hb with
 | [a0,a1,a2,a3,a4,a5],_,[b0,b1,b2,b3,b4,b5],_ =>
  have hsz:∀ w:World,(sizeOf 5).run Tryz.prog w=.ok 1 w:=fun w=>(ty5).sizeOf w
  unfold Op.equalIn
  simp [run_underlying hu,hsz,part,isAgg,run_underlying hi,run_equalIn_int _ _ _ _ _ _ _ hi,Std.Legacy.Range.forIn_eq_forIn_range',Std.Legacy.Range.size,List.range'_succ]
  by_cases h0:a0=b0<;>by_cases h1:a1=b1<;>by_cases h2:a2=b2<;>by_cases h3:a3=b3<;>by_cases h4:a4=b4<;>by_cases h5:a5=b5<;>simp [h0,h1,h2,h3,h4,h5]
section
variable {o:Oper} {E:Operand→Option AV} {H:Hp} {f:Nat} {ty:TypeId} {x y:Operand}
theorem LO.eql_ad (a b:Ad) (ho:o.op=.binOp .eql 36 x y ty) (hx:E x=some (.agg (adC a))) (hy:E y=some (.agg (adC b))):LO Tryz.prog o E H f [] [] (.base (.bool (eqA a b))) H :=
 LO.eq_bases false [.bool a.v6,.int .u64 a.hi,.int .u64 a.lo] [.bool b.v6,.int .u64 b.hi,.int .u64 b.lo] ho hx hy rfl rfl (guard_run x y false (by kernel_rfl)) (eqAd_in 9998 a b)
end
def zAd:Ad:=⟨false,0,0⟩
theorem i64_and {n:Int} (h0:0≤n) (h1:n < 9223372036854775808):bitV .and .i64 n 65535=n % 65536:=by
 obtain ⟨k,rfl⟩:=Int.eq_ofNat_of_zero_le h0
 have e1:(BitVec.ofInt IntKind.i64.bits (k:Int) &&& BitVec.ofInt IntKind.i64.bits 65535).toNat=k % 65536:=by
  rw [BitVec.toNat_and]
  have a1:(BitVec.ofInt IntKind.i64.bits (k:Int)).toNat=k:=by
   simp only [BitVec.toNat_ofInt,IntKind.bits];omega
  have a2:(BitVec.ofInt IntKind.i64.bits (65535:Int)).toNat=2 ^ 16 - 1:=by decide
  rw [a1,a2,Nat.and_two_pow_sub_one_eq_mod]
 show IntKind.i64.wrap ((BitVec.ofInt IntKind.i64.bits (k:Int) &&& BitVec.ofInt IntKind.i64.bits 65535).toNat:Nat)=_
 rw [e1,IntWalk.i64_in _ (by omega)]
 omega
theorem fb_one (p:Int × Int) (x:Int):bitV .or .u64 (IntKind.u64.wrap (p.1 * 2 ^ (min (8:Int).toNat IntKind.u64.bits))) (p.2.fdiv (2 ^ (min (56:Int).toNat IntKind.u64.bits)))=(fbStep p x).1:=by
 rw [show (2:Int) ^ (min (56:Int).toNat IntKind.u64.bits)=72057594037927936 from by decide,Int.fdiv_eq_ediv_of_nonneg _ (by decide)]
 rfl
theorem sum_any (l:List Int) (hB:IsB l) (hl:l.length≤1000000):AFn Tryz.prog 367 0 [.isl (bytesC l) l.length] mt (.base (.int .u16 (sumL l))) mt:=by
 refine AFn.eq Tryz.func367 rfl rfl (Nat.le_of_ble_eq_true rfl)<|Wq<|qW 0 1 rfl<|qA rfl<|Nl<|Wq<|qW 5 6 rfl<|qA rfl<|Nl<|Wq<|Wq<|qW 10 13 rfl<|qM rfl<|qH rfl ty97<|qM rfl<|Nl<|Wb<|W.loop_keep (α:=Nat) (fun x=>l.length - x) 0 (fun x=>[(3,.base (.int .i64 (accN (gB l) x))),(8,.base (.int .i64 (x:Int)))]) (fun x=>mt) (fun x=>x≤l.length) 0 [] (.cons (t:=6) rfl (by exact .inl rfl) (.cons (t:=7) rfl (by exact .inl rfl) .nil)) (show 0≤l.length from Nat.zero_le _) (by decide) ?_ ?_ ?_
 ·exact lC (lR rfl) (lC (lR rfl) lN)
 ·exact aM
 rintro i hIA ihA
 try (dsimp only at hIA)
 try dsimp only [baseT,List.cons_append,List.nil_append]
 have hbd:=accN_bd (gB l) i (fun j=>hB.at j)
 by_cases hc:i < l.length
 ·have g1:decide ((i:Int) < (l.length:Int))=true:=decide_eq_true (by omega)
  have hx:=hB.at i
  have hs:accN (gB l) (i + 1)=accN (gB l) i + (if i % 2=0 then gB l i * 256 else gB l i):=rfl
  obtain ⟨x,hxe⟩:∃ x,gB l i=x:=⟨_,rfl⟩
  have hat:=by_at hc
  rw [hxe] at hx hs hat
  have hsh:IntKind.i64.wrap (x * 2 ^ (min (8:Int).toNat IntKind.i64.bits))=x * 256:=by
   rw [show (2:Int) ^ (min (8:Int).toNat IntKind.i64.bits)=256 from by decide];exact IntWalk.i64_in _ (by omega)
  refine Wq<|qW 17 18 rfl<|qK rfl<|Nl<|Wq<|Wt rfl ‹_›<|Wu<|Wq<|Wb<|Wq<|qW 22 27 rfl<|qM rfl<|qJ rfl rfl ty97 ty5 (by omega)<|Od rfl rfl (Li rfl rfl hat ty5 rfl)<|qA rfl<|qA rfl<|Nl ?_
  by_cases hev:i % 2=0
  ·have g2:((i:Int) % 2 == 0)=true:=by simp;omega
   rw [if_pos hev] at hs
   refine Wq<|qW 31 34 rfl<|qM rfl<|Od rfl rfl (LO.rem_in rfl rfl rfl (by omega) (by omega))<|qE rfl<|Nl<|Wt rfl ‹_›<|qW 38 44 rfl<|qM rfl<|qM rfl<|Od rfl rfl (Ci rfl rfl ty5 ty3 (iW _ (by omega)))<|Od rfl rfl (LO.shl rfl rfl rfl (by omega)) ?_
   rw [hsh]
   refine qZ rfl (iW _ (by omega))<|qA rfl<|Nl ?_
   rw [← hs]
   refine qW 57 59 rfl<|qZ rfl (iW _ (by omega))<|qM rfl<|Nl<|WL.renameL [] 0 (by decide) ?_ ?_ (ihA (i + 1) (show l.length - (i + 1) < l.length - i from by omega) (show (i + 1)≤l.length from by omega))
   ·exact lC (lR rfl) (lC (lR rfl) (lC (lR rfl) (lC (lR rfl) lN)))
   ·exact aM
  ·have g2:((i:Int) % 2 == 0)=false:=by simp;omega
   rw [if_neg hev] at hs
   refine Wq<|qW 31 34 rfl<|qM rfl<|Od rfl rfl (LO.rem_in rfl rfl rfl (by omega) (by omega))<|qE rfl<|Nl<|Wo rfl ‹_›<|qW 48 53 rfl<|qM rfl<|qM rfl<|Od rfl rfl (Ci rfl rfl ty5 ty3 (iW _ (by omega)))<|qZ rfl (iW _ (by omega))<|qA rfl<|Nl ?_
   rw [← hs]
   refine qW 57 59 rfl<|qZ rfl (iW _ (by omega))<|qM rfl<|Nl<|WL.renameL [] 0 (by decide) ?_ ?_ (ihA (i + 1) (show l.length - (i + 1) < l.length - i from by omega) (show (i + 1)≤l.length from by omega))
   ·exact lC (lR rfl) (lC (lR rfl) (lC (lR rfl) (lC (lR rfl) lN)))
   ·exact aM
 ·have g1:decide ((i:Int) < (l.length:Int))=false:=decide_eq_false (by omega)
  refine Wq<|qW 17 18 rfl<|qK rfl<|Nl<|Wq<|Wo rfl ‹_›<|Wx ?_
  obtain rfl:i=l.length:=by omega
  clear ihA
  refine Wq<|Wb<|W.loop_keep (α:=Int) (fun x=>x.toNat) 0 (fun x=>[(3,.base (.int .i64 x))]) (fun x=>mt) (fun x=>(0≤x∧x≤65280000000)∧foldS x=foldS (accL l)) (accN (gB l) l.length) [] .nil (show (0≤(accN (gB l) l.length)∧(accN (gB l) l.length)≤65280000000)∧foldS (accN (gB l) l.length)=foldS (accL l) from ⟨by omega,rfl⟩) (by decide) ?_ ?_ ?_
  ·exact lC (lR rfl) lN
  ·exact aM
  rintro n hIB ihB
  try (dsimp only at hIB)
  try dsimp only [baseT,List.cons_append,List.nil_append]
  obtain ⟨hn,hf⟩:=hIB
  by_cases hbig:65535 < n
  ·have g3:decide (n > 65535)=true:=decide_eq_true hbig
   have h1:n.fdiv (2 ^ (min (16:Int).toNat IntKind.i64.bits))=n / 65536:=by
    rw [show (2:Int) ^ (min (16:Int).toNat IntKind.i64.bits)=65536 from by decide];exact Int.fdiv_eq_ediv_of_nonneg _ (by decide)
   have h2:bitV .and .i64 n 65535=n % 65536:=i64_and hn.1 (by omega)
   refine Wq<|Wq<|qW 63 65 rfl<|qM rfl<|qGt rfl<|Nl<|Wt rfl ‹_›<|Wu<|Wb<|qW 69 75 rfl<|qM rfl<|Od rfl rfl (LO.shr rfl rfl rfl (by omega))<|qM rfl<|Od rfl rfl (LO.and rfl rfl rfl) ?_
   rw [h1,h2]
   refine qZ rfl (iW _ (by omega))<|qA rfl<|Nl<|WL.renameL [] 0 (by decide) ?_ ?_ (ihB (n / 65536 + n % 65536) (show (n / 65536 + n % 65536).toNat < n.toNat from by omega) (show (0≤(n / 65536 + n % 65536)∧(n / 65536 + n % 65536)≤65280000000)∧foldS (n / 65536 + n % 65536)=foldS (accL l) from ⟨by omega,by rw [foldS_step hbig];exact hf⟩))
   ·exact lC (lR rfl) lN
   ·exact aM
  ·have g3:decide (n > 65535)=false:=decide_eq_false hbig
   refine Wq<|Wq<|qW 63 65 rfl<|qM rfl<|qGt rfl<|Nl<|Wo rfl ‹_›<|Wx<|Wq<|qW 79 83 rfl<|qM rfl<|Od rfl rfl (LO.sub_in rfl rfl rfl (iW _ (by omega)))<|Od rfl rfl (Ci rfl rfl ty3 ty439 (IntWalk.u16_in _ (by omega)))<|qA rfl<|Nl<|Wz ⟨.inl rfl,_,mt,Rc (Rt0 rfl) (Rv),aM,?_⟩
   refine ⟨?_,rfl⟩
   rw [foldS_small hn.1 (by omega)] at hf
   show AV.base (.int .u16 (65535 - n))=_
   rw [hf];rfl
theorem from_any (l:List Int) (hB:IsB l) (hn:l.length=4∨l.length=16):AFn Tryz.prog 324 0 [.isl (bytesC l) l.length] mt (.tup [.agg (adC ⟨(l.length:Int) == 16,(fb l).1,(fb l).2⟩),.base (.int .i64 0)]) mt:=by
 refine AFn.eq Tryz.func324 rfl rfl (Nat.le_of_ble_eq_true rfl)<|Wq<|qW 0 2 rfl<|qB rfl ty36<|qA rfl<|Nl ?_
 have key:((l.length:Int) != 4)=false∨(((l.length:Int) != 4)=true∧((l.length:Int) != 16)=false):=by
  rcases hn with h|h
  ·exact .inl (by rw [h];rfl)
  ·exact .inr ⟨by rw [h];rfl,by rw [h];rfl⟩
 rcases key with g1|⟨g1,g2⟩
 case' inl =>
  refine Wq<|Wq<|qW 6 14 rfl<|qM rfl<|qH rfl ty97<|qN rfl<|qM rfl<|qD rfl ‹_› rfl<|qD rfl ‹_› rfl<|qD rfl ‹_› rfl<|qP rfl ‹_› rfl<|Nl ?_
 case' inr =>
  refine Wq<|Wq<|qW 6 14 rfl<|qM rfl<|qH rfl ty97<|qN rfl<|qM rfl<|gM rfl ‹_›<|gH rfl ‹_› ty97<|gN rfl ‹_›<|qT rfl ‹_› rfl<|Nl ?_
 all_goals
  refine Wo rfl (by first|rfl|assumption)<|Wu ?_
  repeat (refine Wq ?_)
  refine qW 25 31 rfl<|qM rfl<|qH rfl ty97<|qE rfl<|Od rfl rfl (Bs rfl ty36 (.cons rfl rfl rfl rfl (Sl rfl) .nil))<|qB rfl ty36<|qS rfl ty36 (Sl rfl) rfl<|Nl ?_
  repeat (refine Wq ?_)
  refine qW 35 38 rfl<|qM rfl<|qH rfl ty97<|qM rfl<|Nl<|Wb<|W.loop_keep (α:=Nat) (fun x=>l.length - x) 2 (fun x=>[(2,.own 0 0),(4,.own 1 0),(22,.base (.int .i64 (x:Int)))]) (fun x=>up (up mt 0 (some (adC zAd))) 1 (some (adC ⟨(l.length:Int) == 16,(fb (l.take x)).1,(fb (l.take x)).2⟩))) (fun x=>x≤l.length) 0 [(0,0),(1,29)] (.cons (t:=20) rfl (by exact .inl rfl) (.cons (t:=21) rfl (by exact .inl rfl) .nil)) (show 0≤l.length from Nat.zero_le _) (by decide) ?_ ?_ ?_
  ·exact lC (lI rfl) (lC (lI rfl) (lC (lR rfl) lN))
  ·exact aU (kR rfl) (aU (kR rfl) aM)
  rintro i hIA ihA
  try (dsimp only at hIA)
  try dsimp only [baseT,List.cons_append,List.nil_append]
  by_cases hc:i < l.length
  ·have g5:decide ((i:Int) < (l.length:Int))=true:=decide_eq_true (by omega)
   have hs:=fb_snoc l i hc
   have hx:=hB.at i
   obtain ⟨x,hxe⟩:∃ x,gB l i=x:=⟨_,rfl⟩
   have hat:=by_at hc
   rw [hxe] at hs hx hat
   obtain ⟨p,hp⟩:∃ p,fb (l.take i)=p:=⟨_,rfl⟩
   obtain ⟨q1,q2⟩:=fb_bd (l.take i)
   rw [hp] at hs q1 q2 ⊢
   have e1:bitV .or .u64 (IntKind.u64.wrap (p.1 * 2 ^ (min (8:Int).toNat IntKind.u64.bits))) (p.2.fdiv (2 ^ (min (56:Int).toNat IntKind.u64.bits)))=(fb (l.take (i + 1))).1:=by rw [hs];exact fb_one p x
   have e2:bitV .or .u64 (IntKind.u64.wrap (p.2 * 2 ^ (min (8:Int).toNat IntKind.u64.bits))) x=(fb (l.take (i + 1))).2:=by rw [hs];rfl
   unfold adC
   repeat (refine Wq ?_)
   refine qW 42 43 rfl<|qK rfl<|Nl ?_
   repeat (refine Wq ?_)
   refine Wt rfl ‹_›<|Wu ?_
   repeat (refine Wq ?_)
   refine Wb ?_
   repeat (refine Wq ?_)
   refine qW 47 50 rfl<|qJ rfl rfl ty97 ty5 (by omega)<|Od rfl rfl (Li rfl rfl hat ty5 rfl)<|qA rfl<|Nl ?_
   repeat (refine Wq ?_)
   refine qW 54 63 rfl<|qF rfl ty36 rfl<|qL rfl ty34 rfl<|Od rfl rfl (LO.shl rfl rfl rfl (by omega))<|qF rfl ty36 rfl<|qL rfl ty34 rfl<|Od rfl rfl (LO.shr rfl rfl rfl (by omega))<|Od rfl rfl (LO.or rfl rfl rfl)<|qF rfl ty36 rfl<|qS rfl ty34 (Sl rfl) rfl<|Nl<|qW 67 75 rfl<|qF rfl ty36 rfl<|qL rfl ty34 rfl<|Od rfl rfl (LO.shl rfl rfl rfl (by omega))<|qM rfl<|Od rfl rfl (Ci rfl rfl ty5 ty34 (IntWalk.u64_in _ (by omega)))<|Od rfl rfl (LO.or rfl rfl rfl)<|qF rfl ty36 rfl<|qS rfl ty34 (Sl rfl) rfl<|Nl ?_
   rw [e1,e2]
   refine qW 79 81 rfl<|qZ rfl (iW _ (by omega))<|qM rfl<|Nl<|WL.renameL [(0,0),(1,1)] 2 (by decide) ?_ ?_ (ihA (i + 1) (show l.length - (i + 1) < l.length - i from by omega) (show (i + 1)≤l.length from by omega))
   ·exact lC (lI rfl) (lC (lI rfl) (lC (lR rfl) (lC (lR rfl) (lC (lR rfl) lN))))
   ·exact aU (kR rfl) (aU (kR rfl) aM)
  ·have g5:decide ((i:Int) < (l.length:Int))=false:=decide_eq_false (by omega)
   repeat (refine Wq ?_)
   refine qW 42 43 rfl<|qK rfl<|Nl ?_
   repeat (refine Wq ?_)
   refine Wo rfl ‹_›<|Wx ?_
   obtain rfl:i=l.length:=by omega
   rw [List.take_length]
   unfold adC
   repeat (refine Wq ?_)
   refine qW 85 88 rfl<|qG rfl ty36 rfl (Tl rfl)<|qS rfl ty36 (Sl rfl) rfl<|qA rfl<|Nl<|Wz ⟨.inl rfl,_,mt,(Rc (Ra0 rfl rfl ty36 rfl (Tl rfl)) (Rc (Rt0 rfl) Rv)),aM,?_⟩
   exact ⟨rfl,rfl⟩
theorem fromX_any (l:List Int) (hB:IsB l) (hn:l.length=4∨l.length=16):AFn Tryz.prog 91 0 [.isl (bytesC l) l.length] mt (.tup [.agg (adC ⟨(l.length:Int) == 16,(fb l).1,(fb l).2⟩),.base (.int .i64 0)]) mt:=by
 refine AFn.eq Tryz.func91 rfl rfl (Nat.le_of_ble_eq_true rfl)<|Wq<|qW 0 2 rfl<|qB rfl ty36<|qA rfl<|Nl ?_
 have key:((l.length:Int) != 4)=false∨(((l.length:Int) != 4)=true∧((l.length:Int) != 16)=false):=by
  rcases hn with h|h
  ·exact .inl (by rw [h];rfl)
  ·exact .inr ⟨by rw [h];rfl,by rw [h];rfl⟩
 rcases key with g1|⟨g1,g2⟩
 case' inl =>
  refine Wq<|Wq<|qW 6 14 rfl<|qM rfl<|qH rfl ty97<|qN rfl<|qM rfl<|qD rfl ‹_› rfl<|qD rfl ‹_› rfl<|qD rfl ‹_› rfl<|qP rfl ‹_› rfl<|Nl ?_
 case' inr =>
  refine Wq<|Wq<|qW 6 14 rfl<|qM rfl<|qH rfl ty97<|qN rfl<|qM rfl<|gM rfl ‹_›<|gH rfl ‹_› ty97<|gN rfl ‹_›<|qT rfl ‹_› rfl<|Nl ?_
 all_goals
  refine Wo rfl (by first|rfl|assumption)<|Wu ?_
  repeat (refine Wq ?_)
  refine qW 25 31 rfl<|qM rfl<|qH rfl ty97<|qE rfl<|Od rfl rfl (Bs rfl ty36 (.cons rfl rfl rfl rfl (Sl rfl) .nil))<|qB rfl ty36<|qS rfl ty36 (Sl rfl) rfl<|Nl ?_
  repeat (refine Wq ?_)
  refine qW 35 38 rfl<|qM rfl<|qH rfl ty97<|qM rfl<|Nl<|Wb<|W.loop_keep (α:=Nat) (fun x=>l.length - x) 2 (fun x=>[(2,.own 0 0),(4,.own 1 0),(22,.base (.int .i64 (x:Int)))]) (fun x=>up (up mt 0 (some (adC zAd))) 1 (some (adC ⟨(l.length:Int) == 16,(fb (l.take x)).1,(fb (l.take x)).2⟩))) (fun x=>x≤l.length) 0 [(0,0),(1,29)] (.cons (t:=20) rfl (by exact .inl rfl) (.cons (t:=21) rfl (by exact .inl rfl) .nil)) (show 0≤l.length from Nat.zero_le _) (by decide) ?_ ?_ ?_
  ·exact lC (lI rfl) (lC (lI rfl) (lC (lR rfl) lN))
  ·exact aU (kR rfl) (aU (kR rfl) aM)
  rintro i hIA ihA
  try (dsimp only at hIA)
  try dsimp only [baseT,List.cons_append,List.nil_append]
  by_cases hc:i < l.length
  ·have g5:decide ((i:Int) < (l.length:Int))=true:=decide_eq_true (by omega)
   have hs:=fb_snoc l i hc
   have hx:=hB.at i
   obtain ⟨x,hxe⟩:∃ x,gB l i=x:=⟨_,rfl⟩
   have hat:=by_at hc
   rw [hxe] at hs hx hat
   obtain ⟨p,hp⟩:∃ p,fb (l.take i)=p:=⟨_,rfl⟩
   obtain ⟨q1,q2⟩:=fb_bd (l.take i)
   rw [hp] at hs q1 q2 ⊢
   have e1:bitV .or .u64 (IntKind.u64.wrap (p.1 * 2 ^ (min (8:Int).toNat IntKind.u64.bits))) (p.2.fdiv (2 ^ (min (56:Int).toNat IntKind.u64.bits)))=(fb (l.take (i + 1))).1:=by rw [hs];exact fb_one p x
   have e2:bitV .or .u64 (IntKind.u64.wrap (p.2 * 2 ^ (min (8:Int).toNat IntKind.u64.bits))) x=(fb (l.take (i + 1))).2:=by rw [hs];rfl
   unfold adC
   repeat (refine Wq ?_)
   refine qW 42 43 rfl<|qK rfl<|Nl ?_
   repeat (refine Wq ?_)
   refine Wt rfl ‹_›<|Wu ?_
   repeat (refine Wq ?_)
   refine Wb ?_
   repeat (refine Wq ?_)
   refine qW 47 50 rfl<|qJ rfl rfl ty97 ty5 (by omega)<|Od rfl rfl (Li rfl rfl hat ty5 rfl)<|qA rfl<|Nl ?_
   repeat (refine Wq ?_)
   refine qW 54 63 rfl<|qF rfl ty36 rfl<|qL rfl ty34 rfl<|Od rfl rfl (LO.shl rfl rfl rfl (by omega))<|qF rfl ty36 rfl<|qL rfl ty34 rfl<|Od rfl rfl (LO.shr rfl rfl rfl (by omega))<|Od rfl rfl (LO.or rfl rfl rfl)<|qF rfl ty36 rfl<|qS rfl ty34 (Sl rfl) rfl<|Nl<|qW 67 75 rfl<|qF rfl ty36 rfl<|qL rfl ty34 rfl<|Od rfl rfl (LO.shl rfl rfl rfl (by omega))<|qM rfl<|Od rfl rfl (Ci rfl rfl ty5 ty34 (IntWalk.u64_in _ (by omega)))<|Od rfl rfl (LO.or rfl rfl rfl)<|qF rfl ty36 rfl<|qS rfl ty34 (Sl rfl) rfl<|Nl ?_
   rw [e1,e2]
   refine qW 79 81 rfl<|qZ rfl (iW _ (by omega))<|qM rfl<|Nl<|WL.renameL [(0,0),(1,1)] 2 (by decide) ?_ ?_ (ihA (i + 1) (show l.length - (i + 1) < l.length - i from by omega) (show (i + 1)≤l.length from by omega))
   ·exact lC (lI rfl) (lC (lI rfl) (lC (lR rfl) (lC (lR rfl) (lC (lR rfl) lN))))
   ·exact aU (kR rfl) (aU (kR rfl) aM)
  ·have g5:decide ((i:Int) < (l.length:Int))=false:=decide_eq_false (by omega)
   repeat (refine Wq ?_)
   refine qW 42 43 rfl<|qK rfl<|Nl ?_
   repeat (refine Wq ?_)
   refine Wo rfl ‹_›<|Wx ?_
   obtain rfl:i=l.length:=by omega
   rw [List.take_length]
   unfold adC
   repeat (refine Wq ?_)
   refine qW 85 88 rfl<|qG rfl ty36 rfl (Tl rfl)<|qS rfl ty36 (Sl rfl) rfl<|qA rfl<|Nl<|Wz ⟨.inl rfl,_,mt,(Rc (Ra0 rfl rfl ty36 rfl (Tl rfl)) (Rc (Rt0 rfl) Rv)),aM,?_⟩
   exact ⟨rfl,rfl⟩
end Go.Proofs.YtbfnfgpjgdbmeaaGreatDoor
