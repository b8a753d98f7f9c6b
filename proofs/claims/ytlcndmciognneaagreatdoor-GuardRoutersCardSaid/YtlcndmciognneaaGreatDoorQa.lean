/-
  The types of the program. The list of numbers that everything is made from: the next number, a new list. From 'the walk returns true and leaves what lay there as it was' to a statement's row; the arguments that come in, as the abstract machine sees them. The listed variable holds what the abstract machine says it holds; numbers and lists of numbers, as they come in. Bytes, numbers of several bytes, addresses, check sums, packets: plain words and laws.
-/
import Derived.Test.YtlcndmciognneaaGreatDoorMab
import Derived.KernelRfl
import Derived.Test.YtlcndmciognneaaGreatDoorRows
import Derived.ProofKit
import Derived.Test.YtlcndmciognneaaGreatDoorGt
import Derived.Test.YtlcndmciognneaaGreatDoorCards
import Derived.Test.YtlcndmciognneaaGreatDoorTie
import Derived.SevenTiedAt
import Derived.LaidMore
import Derived.LaidHandle
import Derived.OpenShut
import Derived.Laws.Entries
import Derived.Laws.CopyOwn
namespace Go.Proofs.YtlcndmciognneaaGreatDoor
open Go.RowKit
theorem ty3:TyOK Tryz.prog 3 (.int .i64) 1 8 [.base (.int .i64 0)]:=by unfold TyOK;kernel_rfl
theorem ty4:TyOK Tryz.prog 4 (.bool) 1 1 [.base (.bool false)]:=by unfold TyOK;kernel_rfl
theorem ty5:TyOK Tryz.prog 5 (.int .u8) 1 1 [.base (.int .u8 0)]:=by unfold TyOK;kernel_rfl
theorem ty9:TyOK Tryz.prog 9 (.str) 1 16 [.base (.string ⟨#[]⟩)]:=by unfold TyOK;kernel_rfl
theorem ty22:TyOK Tryz.prog 22 (.arr 6 5) 6 6 [.base (.int .u8 0),.base (.int .u8 0),.base (.int .u8 0),.base (.int .u8 0),.base (.int .u8 0),.base (.int .u8 0)]:=by unfold TyOK;kernel_rfl
theorem ty23:TyOK Tryz.prog 23 (.arr 6 5) 6 6 [.base (.int .u8 0),.base (.int .u8 0),.base (.int .u8 0),.base (.int .u8 0),.base (.int .u8 0),.base (.int .u8 0)]:=by unfold TyOK;kernel_rfl
theorem ty24:TyOK Tryz.prog 24 (.sl 5) 1 24 [.nils]:=by unfold TyOK;kernel_rfl
theorem ty26:TyOK Tryz.prog 26 (.st [(0,6,23),(6,6,23),(12,1,3),(13,1,3),(14,1,24)]) 15 56 [.base (.int .u8 0),.base (.int .u8 0),.base (.int .u8 0),.base (.int .u8 0),.base (.int .u8 0),.base (.int .u8 0),.base (.int .u8 0),.base (.int .u8 0),.base (.int .u8 0),.base (.int .u8 0),.base (.int .u8 0),.base (.int .u8 0),.base (.int .i64 0),.base (.int .i64 0),.nils]:=by unfold TyOK;kernel_rfl
theorem ty27:TyOK Tryz.prog 27 (.sl 3) 1 24 [.nils]:=by unfold TyOK;kernel_rfl
theorem ty30:TyOK Tryz.prog 30 (.sl 39) 1 24 [.nils]:=by unfold TyOK;kernel_rfl
theorem ty36:TyOK Tryz.prog 36 (.sl 23) 1 24 [.nils]:=by unfold TyOK;kernel_rfl
theorem ty37:TyOK Tryz.prog 37 (.sl 54) 1 24 [.nils]:=by unfold TyOK;kernel_rfl
theorem ty39:TyOK Tryz.prog 39 (.st [(0,1,3),(1,1,3),(2,1,3),(3,1,36),(4,1,37),(5,1,37),(6,1,3),(7,1,3)]) 8 112 [.base (.int .i64 0),.base (.int .i64 0),.base (.int .i64 0),.nils,.nils,.nils,.base (.int .i64 0),.base (.int .i64 0)]:=by unfold TyOK;kernel_rfl
theorem ty52:TyOK Tryz.prog 52 (.int .u64) 1 8 [.base (.int .u64 0)]:=by unfold TyOK;kernel_rfl
theorem ty54:TyOK Tryz.prog 54 (.st [(0,1,4),(1,1,52),(2,1,52)]) 3 24 [.base (.bool false),.base (.int .u64 0),.base (.int .u64 0)]:=by unfold TyOK;kernel_rfl
theorem ty56:TyOK Tryz.prog 56 (.st [(0,3,54),(3,1,3)]) 4 32 [.base (.bool false),.base (.int .u64 0),.base (.int .u64 0),.base (.int .i64 0)]:=by unfold TyOK;kernel_rfl
theorem ty78:TyOK Tryz.prog 78 (.st [(0,1,3),(1,6,23),(7,3,54),(10,6,23),(16,3,54)]) 19 72 [.base (.int .i64 0),.base (.int .u8 0),.base (.int .u8 0),.base (.int .u8 0),.base (.int .u8 0),.base (.int .u8 0),.base (.int .u8 0),.base (.bool false),.base (.int .u64 0),.base (.int .u64 0),.base (.int .u8 0),.base (.int .u8 0),.base (.int .u8 0),.base (.int .u8 0),.base (.int .u8 0),.base (.int .u8 0),.base (.bool false),.base (.int .u64 0),.base (.int .u64 0)]:=by unfold TyOK;kernel_rfl
theorem ty83:TyOK Tryz.prog 83 (.st [(0,3,54),(3,3,54),(6,1,3),(7,1,3),(8,1,24)]) 9 88 [.base (.bool false),.base (.int .u64 0),.base (.int .u64 0),.base (.bool false),.base (.int .u64 0),.base (.int .u64 0),.base (.int .i64 0),.base (.int .i64 0),.nils]:=by unfold TyOK;kernel_rfl
theorem ty87:TyOK Tryz.prog 87 (.st [(0,1,3),(1,1,3),(2,3,54),(5,1,4),(6,6,23)]) 12 48 [.base (.int .i64 0),.base (.int .i64 0),.base (.bool false),.base (.int .u64 0),.base (.int .u64 0),.base (.bool false),.base (.int .u8 0),.base (.int .u8 0),.base (.int .u8 0),.base (.int .u8 0),.base (.int .u8 0),.base (.int .u8 0)]:=by unfold TyOK;kernel_rfl
theorem ty103:TyOK Tryz.prog 103 (.sl 150) 1 24 [.nils]:=by unfold TyOK;kernel_rfl
theorem ty105:TyOK Tryz.prog 105 (.st [(0,4,56),(4,4,56),(8,1,103),(9,1,103)]) 10 112 [.base (.bool false),.base (.int .u64 0),.base (.int .u64 0),.base (.int .i64 0),.base (.bool false),.base (.int .u64 0),.base (.int .u64 0),.base (.int .i64 0),.nils,.nils]:=by unfold TyOK;kernel_rfl
theorem ty114:TyOK Tryz.prog 114 (.st [(0,1,27),(1,1,3)]) 2 32 [.nils,.base (.int .i64 0)]:=by unfold TyOK;kernel_rfl
theorem ty129:TyOK Tryz.prog 129 (.int .u64) 1 8 [.base (.int .u64 0)]:=by unfold TyOK;kernel_rfl
theorem ty133:TyOK Tryz.prog 133 (.int .u16) 1 2 [.base (.int .u16 0)]:=by unfold TyOK;kernel_rfl
theorem ty148:TyOK Tryz.prog 148 (.sl 157) 1 24 [.nils]:=by unfold TyOK;kernel_rfl
theorem ty150:TyOK Tryz.prog 150 (.st [(0,1,3),(1,1,9),(2,1,9),(3,1,3),(4,1,3),(5,1,148)]) 6 80 [.base (.int .i64 0),.base (.string ⟨#[]⟩),.base (.string ⟨#[]⟩),.base (.int .i64 0),.base (.int .i64 0),.nils]:=by unfold TyOK;kernel_rfl
theorem ty152:TyOK Tryz.prog 152 (.sl 9) 1 24 [.nils]:=by unfold TyOK;kernel_rfl
theorem ty157:TyOK Tryz.prog 157 (.st [(0,1,3),(1,1,3),(2,1,3),(3,1,36),(4,3,54),(7,3,54)]) 10 96 [.base (.int .i64 0),.base (.int .i64 0),.base (.int .i64 0),.nils,.base (.bool false),.base (.int .u64 0),.base (.int .u64 0),.base (.bool false),.base (.int .u64 0),.base (.int .u64 0)]:=by unfold TyOK;kernel_rfl
theorem ty182:TyOK Tryz.prog 182 (.sl 24) 1 24 [.nils]:=by unfold TyOK;kernel_rfl
theorem ty208:TyOK Tryz.prog 208 (.map 3 4) 1 8 [.base (.map none)]:=by unfold TyOK;kernel_rfl
theorem ty209:TyOK Tryz.prog 209 (.map 9 4) 1 8 [.base (.map none)]:=by unfold TyOK;kernel_rfl
theorem ty210:TyOK Tryz.prog 210 (.map 23 4) 1 8 [.base (.map none)]:=by unfold TyOK;kernel_rfl
theorem ty211:TyOK Tryz.prog 211 (.map 54 4) 1 8 [.base (.map none)]:=by unfold TyOK;kernel_rfl
theorem ty231:TyOK Tryz.prog 231 (.sl 103) 1 24 [.nils]:=by unfold TyOK;kernel_rfl
theorem fok16:FnOK Tryz.prog 16:=⟨Tryz.f16,Tryz.func16,by kernel_rfl,by kernel_rfl⟩
theorem fok17:FnOK Tryz.prog 17:=⟨Tryz.f17,Tryz.func17,by kernel_rfl,by kernel_rfl⟩
theorem fok19:FnOK Tryz.prog 19:=⟨Tryz.f19,Tryz.func19,by kernel_rfl,by kernel_rfl⟩
theorem fok20:FnOK Tryz.prog 20:=⟨Tryz.f20,Tryz.func20,by kernel_rfl,by kernel_rfl⟩
theorem fok26:FnOK Tryz.prog 26:=⟨Tryz.f26,Tryz.func26,by kernel_rfl,by kernel_rfl⟩
theorem fok30:FnOK Tryz.prog 30:=⟨Tryz.f30,Tryz.func30,by kernel_rfl,by kernel_rfl⟩
theorem fok31:FnOK Tryz.prog 31:=⟨Tryz.f31,Tryz.func31,by kernel_rfl,by kernel_rfl⟩
theorem fok32:FnOK Tryz.prog 32:=⟨Tryz.f32,Tryz.func32,by kernel_rfl,by kernel_rfl⟩
theorem fok34:FnOK Tryz.prog 34:=⟨Tryz.f34,Tryz.func34,by kernel_rfl,by kernel_rfl⟩
theorem fok39:FnOK Tryz.prog 39:=⟨Tryz.f39,Tryz.func39,by kernel_rfl,by kernel_rfl⟩
theorem fok41:FnOK Tryz.prog 41:=⟨Tryz.f41,Tryz.func41,by kernel_rfl,by kernel_rfl⟩
theorem fok42:FnOK Tryz.prog 42:=⟨Tryz.f42,Tryz.func42,by kernel_rfl,by kernel_rfl⟩
theorem fok43:FnOK Tryz.prog 43:=⟨Tryz.f43,Tryz.func43,by kernel_rfl,by kernel_rfl⟩
theorem fok46:FnOK Tryz.prog 46:=⟨Tryz.f46,Tryz.func46,by kernel_rfl,by kernel_rfl⟩
theorem fok49:FnOK Tryz.prog 49:=⟨Tryz.f49,Tryz.func49,by kernel_rfl,by kernel_rfl⟩
theorem fok51:FnOK Tryz.prog 51:=⟨Tryz.f51,Tryz.func51,by kernel_rfl,by kernel_rfl⟩
theorem fok61:FnOK Tryz.prog 61:=⟨Tryz.f61,Tryz.func61,by kernel_rfl,by kernel_rfl⟩
theorem fok62:FnOK Tryz.prog 62:=⟨Tryz.f62,Tryz.func62,by kernel_rfl,by kernel_rfl⟩
theorem fok63:FnOK Tryz.prog 63:=⟨Tryz.f63,Tryz.func63,by kernel_rfl,by kernel_rfl⟩
theorem fok64:FnOK Tryz.prog 64:=⟨Tryz.f64,Tryz.func64,by kernel_rfl,by kernel_rfl⟩
theorem fok65:FnOK Tryz.prog 65:=⟨Tryz.f65,Tryz.func65,by kernel_rfl,by kernel_rfl⟩
theorem fok66:FnOK Tryz.prog 66:=⟨Tryz.f66,Tryz.func66,by kernel_rfl,by kernel_rfl⟩
theorem fok67:FnOK Tryz.prog 67:=⟨Tryz.f67,Tryz.func67,by kernel_rfl,by kernel_rfl⟩
theorem fok68:FnOK Tryz.prog 68:=⟨Tryz.f68,Tryz.func68,by kernel_rfl,by kernel_rfl⟩
theorem fok69:FnOK Tryz.prog 69:=⟨Tryz.f69,Tryz.func69,by kernel_rfl,by kernel_rfl⟩
theorem fok73:FnOK Tryz.prog 73:=⟨Tryz.f73,Tryz.func73,by kernel_rfl,by kernel_rfl⟩
theorem fok76:FnOK Tryz.prog 76:=⟨Tryz.f76,Tryz.func76,by kernel_rfl,by kernel_rfl⟩
theorem fok77:FnOK Tryz.prog 77:=⟨Tryz.f77,Tryz.func77,by kernel_rfl,by kernel_rfl⟩
theorem fok78:FnOK Tryz.prog 78:=⟨Tryz.f78,Tryz.func78,by kernel_rfl,by kernel_rfl⟩
theorem fok79:FnOK Tryz.prog 79:=⟨Tryz.f79,Tryz.func79,by kernel_rfl,by kernel_rfl⟩
theorem fok80:FnOK Tryz.prog 80:=⟨Tryz.f80,Tryz.func80,by kernel_rfl,by kernel_rfl⟩
theorem fok81:FnOK Tryz.prog 81:=⟨Tryz.f81,Tryz.func81,by kernel_rfl,by kernel_rfl⟩
theorem fok82:FnOK Tryz.prog 82:=⟨Tryz.f82,Tryz.func82,by kernel_rfl,by kernel_rfl⟩
theorem fok84:FnOK Tryz.prog 84:=⟨Tryz.f84,Tryz.func84,by kernel_rfl,by kernel_rfl⟩
theorem fok85:FnOK Tryz.prog 85:=⟨Tryz.f85,Tryz.func85,by kernel_rfl,by kernel_rfl⟩
theorem fok90:FnOK Tryz.prog 90:=⟨Tryz.f90,Tryz.func90,by kernel_rfl,by kernel_rfl⟩
theorem fok95:FnOK Tryz.prog 95:=⟨Tryz.f95,Tryz.func95,by kernel_rfl,by kernel_rfl⟩
theorem fok96:FnOK Tryz.prog 96:=⟨Tryz.f96,Tryz.func96,by kernel_rfl,by kernel_rfl⟩
theorem fok97:FnOK Tryz.prog 97:=⟨Tryz.f97,Tryz.func97,by kernel_rfl,by kernel_rfl⟩
theorem fok98:FnOK Tryz.prog 98:=⟨Tryz.f98,Tryz.func98,by kernel_rfl,by kernel_rfl⟩
theorem fok99:FnOK Tryz.prog 99:=⟨Tryz.f99,Tryz.func99,by kernel_rfl,by kernel_rfl⟩
theorem fok100:FnOK Tryz.prog 100:=⟨Tryz.f100,Tryz.func100,by kernel_rfl,by kernel_rfl⟩
theorem fok101:FnOK Tryz.prog 101:=⟨Tryz.f101,Tryz.func101,by kernel_rfl,by kernel_rfl⟩
theorem fok110:FnOK Tryz.prog 110:=⟨Tryz.f110,Tryz.func110,by kernel_rfl,by kernel_rfl⟩
theorem fok111:FnOK Tryz.prog 111:=⟨Tryz.f111,Tryz.func111,by kernel_rfl,by kernel_rfl⟩
theorem fok112:FnOK Tryz.prog 112:=⟨Tryz.f112,Tryz.func112,by kernel_rfl,by kernel_rfl⟩
theorem fok113:FnOK Tryz.prog 113:=⟨Tryz.f113,Tryz.func113,by kernel_rfl,by kernel_rfl⟩
theorem fok114:FnOK Tryz.prog 114:=⟨Tryz.f114,Tryz.func114,by kernel_rfl,by kernel_rfl⟩
theorem fok115:FnOK Tryz.prog 115:=⟨Tryz.f115,Tryz.func115,by kernel_rfl,by kernel_rfl⟩
theorem fok116:FnOK Tryz.prog 116:=⟨Tryz.f116,Tryz.func116,by kernel_rfl,by kernel_rfl⟩
theorem fok117:FnOK Tryz.prog 117:=⟨Tryz.f117,Tryz.func117,by kernel_rfl,by kernel_rfl⟩
theorem fok118:FnOK Tryz.prog 118:=⟨Tryz.f118,Tryz.func118,by kernel_rfl,by kernel_rfl⟩
theorem fok119:FnOK Tryz.prog 119:=⟨Tryz.f119,Tryz.func119,by kernel_rfl,by kernel_rfl⟩
theorem fok120:FnOK Tryz.prog 120:=⟨Tryz.f120,Tryz.func120,by kernel_rfl,by kernel_rfl⟩
theorem fok121:FnOK Tryz.prog 121:=⟨Tryz.f121,Tryz.func121,by kernel_rfl,by kernel_rfl⟩
theorem fok122:FnOK Tryz.prog 122:=⟨Tryz.f122,Tryz.func122,by kernel_rfl,by kernel_rfl⟩
theorem fok123:FnOK Tryz.prog 123:=⟨Tryz.f123,Tryz.func123,by kernel_rfl,by kernel_rfl⟩
theorem fok125:FnOK Tryz.prog 125:=⟨Tryz.f125,Tryz.func125,by kernel_rfl,by kernel_rfl⟩
theorem fok130:FnOK Tryz.prog 130:=⟨Tryz.f130,Tryz.func130,by kernel_rfl,by kernel_rfl⟩
theorem fok137:FnOK Tryz.prog 137:=⟨Tryz.f137,Tryz.func137,by kernel_rfl,by kernel_rfl⟩
theorem fok138:FnOK Tryz.prog 138:=⟨Tryz.f138,Tryz.func138,by kernel_rfl,by kernel_rfl⟩
theorem fok143:FnOK Tryz.prog 143:=⟨Tryz.f143,Tryz.func143,by kernel_rfl,by kernel_rfl⟩
theorem fok144:FnOK Tryz.prog 144:=⟨Tryz.f144,Tryz.func144,by kernel_rfl,by kernel_rfl⟩
theorem fok145:FnOK Tryz.prog 145:=⟨Tryz.f145,Tryz.func145,by kernel_rfl,by kernel_rfl⟩
theorem fok146:FnOK Tryz.prog 146:=⟨Tryz.f146,Tryz.func146,by kernel_rfl,by kernel_rfl⟩
theorem fok147:FnOK Tryz.prog 147:=⟨Tryz.f147,Tryz.func147,by kernel_rfl,by kernel_rfl⟩
theorem fok148:FnOK Tryz.prog 148:=⟨Tryz.f148,Tryz.func148,by kernel_rfl,by kernel_rfl⟩
theorem fok149:FnOK Tryz.prog 149:=⟨Tryz.f149,Tryz.func149,by kernel_rfl,by kernel_rfl⟩
theorem fok150:FnOK Tryz.prog 150:=⟨Tryz.f150,Tryz.func150,by kernel_rfl,by kernel_rfl⟩
theorem fok151:FnOK Tryz.prog 151:=⟨Tryz.f151,Tryz.func151,by kernel_rfl,by kernel_rfl⟩
theorem fok152:FnOK Tryz.prog 152:=⟨Tryz.f152,Tryz.func152,by kernel_rfl,by kernel_rfl⟩
theorem fok153:FnOK Tryz.prog 153:=⟨Tryz.f153,Tryz.func153,by kernel_rfl,by kernel_rfl⟩
theorem fok154:FnOK Tryz.prog 154:=⟨Tryz.f154,Tryz.func154,by kernel_rfl,by kernel_rfl⟩
theorem fok155:FnOK Tryz.prog 155:=⟨Tryz.f155,Tryz.func155,by kernel_rfl,by kernel_rfl⟩
theorem fok156:FnOK Tryz.prog 156:=⟨Tryz.f156,Tryz.func156,by kernel_rfl,by kernel_rfl⟩
theorem fok157:FnOK Tryz.prog 157:=⟨Tryz.f157,Tryz.func157,by kernel_rfl,by kernel_rfl⟩
theorem fok158:FnOK Tryz.prog 158:=⟨Tryz.f158,Tryz.func158,by kernel_rfl,by kernel_rfl⟩
theorem fok159:FnOK Tryz.prog 159:=⟨Tryz.f159,Tryz.func159,by kernel_rfl,by kernel_rfl⟩
theorem fok160:FnOK Tryz.prog 160:=⟨Tryz.f160,Tryz.func160,by kernel_rfl,by kernel_rfl⟩
theorem fok161:FnOK Tryz.prog 161:=⟨Tryz.f161,Tryz.func161,by kernel_rfl,by kernel_rfl⟩
theorem fok162:FnOK Tryz.prog 162:=⟨Tryz.f162,Tryz.func162,by kernel_rfl,by kernel_rfl⟩
theorem fok163:FnOK Tryz.prog 163:=⟨Tryz.f163,Tryz.func163,by kernel_rfl,by kernel_rfl⟩
theorem fok164:FnOK Tryz.prog 164:=⟨Tryz.f164,Tryz.func164,by kernel_rfl,by kernel_rfl⟩
theorem fok165:FnOK Tryz.prog 165:=⟨Tryz.f165,Tryz.func165,by kernel_rfl,by kernel_rfl⟩
theorem fok166:FnOK Tryz.prog 166:=⟨Tryz.f166,Tryz.func166,by kernel_rfl,by kernel_rfl⟩
theorem fok167:FnOK Tryz.prog 167:=⟨Tryz.f167,Tryz.func167,by kernel_rfl,by kernel_rfl⟩
theorem fok174:FnOK Tryz.prog 174:=⟨Tryz.f174,Tryz.func174,by kernel_rfl,by kernel_rfl⟩
theorem fok175:FnOK Tryz.prog 175:=⟨Tryz.f175,Tryz.func175,by kernel_rfl,by kernel_rfl⟩
theorem fok176:FnOK Tryz.prog 176:=⟨Tryz.f176,Tryz.func176,by kernel_rfl,by kernel_rfl⟩
theorem fok177:FnOK Tryz.prog 177:=⟨Tryz.f177,Tryz.func177,by kernel_rfl,by kernel_rfl⟩
theorem fok178:FnOK Tryz.prog 178:=⟨Tryz.f178,Tryz.func178,by kernel_rfl,by kernel_rfl⟩
theorem fok179:FnOK Tryz.prog 179:=⟨Tryz.f179,Tryz.func179,by kernel_rfl,by kernel_rfl⟩
theorem fok180:FnOK Tryz.prog 180:=⟨Tryz.f180,Tryz.func180,by kernel_rfl,by kernel_rfl⟩
theorem fok181:FnOK Tryz.prog 181:=⟨Tryz.f181,Tryz.func181,by kernel_rfl,by kernel_rfl⟩
theorem fok182:FnOK Tryz.prog 182:=⟨Tryz.f182,Tryz.func182,by kernel_rfl,by kernel_rfl⟩
theorem fok183:FnOK Tryz.prog 183:=⟨Tryz.f183,Tryz.func183,by kernel_rfl,by kernel_rfl⟩
theorem fok184:FnOK Tryz.prog 184:=⟨Tryz.f184,Tryz.func184,by kernel_rfl,by kernel_rfl⟩
theorem fok185:FnOK Tryz.prog 185:=⟨Tryz.f185,Tryz.func185,by kernel_rfl,by kernel_rfl⟩
theorem fok186:FnOK Tryz.prog 186:=⟨Tryz.f186,Tryz.func186,by kernel_rfl,by kernel_rfl⟩
theorem fok187:FnOK Tryz.prog 187:=⟨Tryz.f187,Tryz.func187,by kernel_rfl,by kernel_rfl⟩
theorem fok188:FnOK Tryz.prog 188:=⟨Tryz.f188,Tryz.func188,by kernel_rfl,by kernel_rfl⟩
theorem fok189:FnOK Tryz.prog 189:=⟨Tryz.f189,Tryz.func189,by kernel_rfl,by kernel_rfl⟩
theorem fok190:FnOK Tryz.prog 190:=⟨Tryz.f190,Tryz.func190,by kernel_rfl,by kernel_rfl⟩
theorem fok191:FnOK Tryz.prog 191:=⟨Tryz.f191,Tryz.func191,by kernel_rfl,by kernel_rfl⟩
theorem fok192:FnOK Tryz.prog 192:=⟨Tryz.f192,Tryz.func192,by kernel_rfl,by kernel_rfl⟩
theorem fok193:FnOK Tryz.prog 193:=⟨Tryz.f193,Tryz.func193,by kernel_rfl,by kernel_rfl⟩
theorem fok194:FnOK Tryz.prog 194:=⟨Tryz.f194,Tryz.func194,by kernel_rfl,by kernel_rfl⟩
theorem fok195:FnOK Tryz.prog 195:=⟨Tryz.f195,Tryz.func195,by kernel_rfl,by kernel_rfl⟩
theorem fok196:FnOK Tryz.prog 196:=⟨Tryz.f196,Tryz.func196,by kernel_rfl,by kernel_rfl⟩
theorem fok197:FnOK Tryz.prog 197:=⟨Tryz.f197,Tryz.func197,by kernel_rfl,by kernel_rfl⟩
theorem fok198:FnOK Tryz.prog 198:=⟨Tryz.f198,Tryz.func198,by kernel_rfl,by kernel_rfl⟩
theorem fok199:FnOK Tryz.prog 199:=⟨Tryz.f199,Tryz.func199,by kernel_rfl,by kernel_rfl⟩
theorem fok200:FnOK Tryz.prog 200:=⟨Tryz.f200,Tryz.func200,by kernel_rfl,by kernel_rfl⟩
theorem fok201:FnOK Tryz.prog 201:=⟨Tryz.f201,Tryz.func201,by kernel_rfl,by kernel_rfl⟩
theorem fok203:FnOK Tryz.prog 203:=⟨Tryz.f203,Tryz.func203,by kernel_rfl,by kernel_rfl⟩
theorem fok207:FnOK Tryz.prog 207:=⟨Tryz.f207,Tryz.func207,by kernel_rfl,by kernel_rfl⟩
theorem fok208:FnOK Tryz.prog 208:=⟨Tryz.f208,Tryz.func208,by kernel_rfl,by kernel_rfl⟩
theorem fok209:FnOK Tryz.prog 209:=⟨Tryz.f209,Tryz.func209,by kernel_rfl,by kernel_rfl⟩
theorem fok213:FnOK Tryz.prog 213:=⟨Tryz.f213,Tryz.func213,by kernel_rfl,by kernel_rfl⟩
theorem mixed:Tryz.prog.follows .mixedOrders=true:=by kernel_rfl
theorem tmod_pos (v n:Int) (hn:1≤n):-n < v.tmod n∧v.tmod n < n∧v % n=if v.tmod n < 0 then v.tmod n + n else v.tmod n:=by
 have h0:=Int.emod_nonneg v (show n≠0 by omega)
 have h1:=Int.emod_lt_of_pos v (show 0 < n by omega)
 rw [Int.tmod_eq_emod]
 have h3:(n.natAbs:Int)=n:=by omega
 split
 ·refine ⟨by omega,by omega,?_⟩
  rw [if_neg (by omega)];omega
 ·rename_i h
  have h2:v % n≠0:=fun e=>h (.inr (Int.dvd_of_emod_eq_zero e))
  refine ⟨by omega,by omega,?_⟩
  rw [if_pos (by omega)];omega
theorem mod_any (v n:Int) (hn:1≤n) (hn2:n≤9223372036854775807):AFn Tryz.prog 17 0 [.base (.int .i64 v),.base (.int .i64 n)] mt (.base (.int .i64 (v % n))) mt:=by
 refine AFn.eq Tryz.func17 rfl rfl (Nat.le_of_ble_eq_true rfl) ?_
 obtain ⟨h1,h2,h3⟩:=tmod_pos v n hn
 refine Wq<|qW 0 1 rfl<|qA rfl<|Nl<|Wq<|qW 5 9 rfl<|qM rfl<|qM rfl<|Od rfl rfl (LO.rem rfl rfl rfl (by omega))<|qA rfl<|Nl<|Wq<|Wq<|qW 13 15 rfl<|qM rfl<|qK rfl<|Nl<|W.cond rfl (fun hb=>?_) (fun hb=>?_)
 ·have hb:v.tmod n < 0:=of_decide_eq_true hb
  refine qW 19 23 rfl<|qM rfl<|qM rfl<|qZ rfl (iW _ (by omega))<|qA rfl<|Nl<|Wq<|qW 27 29 rfl<|qM rfl<|qA rfl<|Nl<|Wz ⟨.inl rfl,_,mt,Rc (Rt0 rfl) (Rv),aM,?_⟩
  exact ⟨by rw [h3,if_pos hb];rfl,rfl⟩
 ·have hb:¬ v.tmod n < 0:=of_decide_eq_false hb
  refine Wu<|Wq<|qW 27 29 rfl<|qM rfl<|qA rfl<|Nl<|Wz ⟨.inl rfl,_,mt,Rc (Rt0 rfl) (Rv),aM,?_⟩
  exact ⟨by rw [h3,if_neg hb];rfl,rfl⟩
def deckC (l:List Int) (at_:Nat):List AV:=[.isl (l.map fun z=>.base (.int .i64 z)) l.length,.base (.int .i64 (at_:Int))]
def nextV (l:List Int) (at_:Nat) (n:Int):Int:=if h:at_ < l.length then l[at_] % n else 0
def nextAt (l:List Int) (at_:Nat):Nat:=if at_ < l.length then at_ + 1 else at_
theorem next_any (l:List Int) (at_:Nat) (n:Int) (hn:1≤n) (hn2:n≤9223372036854775807) (hl:l.length≤9223372036854775807) :
 AFn Tryz.prog 49 1 [.own 0 0,.base (.int .i64 n)] (up mt 0 (some (deckC l at_))) (.base (.int .i64 (nextV l at_ n))) (up mt 0 (some (deckC l (nextAt l at_)))):=by
 refine AFn.eq Tryz.func49 rfl rfl (Nat.le_of_ble_eq_true rfl) ?_
 unfold deckC
 refine Wq<|qW 1 2 rfl<|qA rfl<|Nl<|Wq<|Wq<|Wd 6 16 (by decide) rfl mixed rfl<|qM rfl<|Od rfl rfl (Nc rfl rfl)<|qF rfl ty114 rfl<|qL rfl ty3 rfl<|qM rfl<|Od rfl rfl (Nc rfl rfl)<|qF rfl ty114 rfl<|qL rfl ty27 rfl<|qH rfl ty27<|qGe rfl<|Nl ⟨by kernel_rfl,(W.cond rfl (fun hb=>?_) (fun hb=>?_))⟩
 ·have hb:¬ at_ < l.length:=by have:=of_decide_eq_true hb;omega
  refine Wq<|qW 20 21 rfl<|qA rfl<|Nl<|Wz ⟨.inl rfl,_,up mt 0 (some (deckC l at_)),Rc (Rt0 rfl) Rv,aU rfl aM,?_⟩
  exact ⟨by unfold nextV;rw [dif_neg hb];rfl,by unfold nextAt deckC;rw [if_neg hb]⟩
 ·have hb:at_ < l.length:=by have:=of_decide_eq_false hb;omega
  refine Wu ?_
  have he:(at_:Int) + 1 - 1=(at_:Int):=by omega
  refine Wq<|qW 25 33 rfl<|qM rfl<|Od rfl rfl (Nc rfl rfl)<|qF rfl ty114 rfl<|qL rfl ty3 rfl<|qZ rfl (iW _ (by omega))<|Od rfl rfl (Nc rfl rfl)<|qF rfl ty114 rfl<|qS rfl ty3 (Sl rfl) rfl<|Nl ?_
  have hg:(l.map fun z=>AV.base (.int .i64 z))[at_ * 1]?=some (.base (.int .i64 l[at_])):=by simp [hb]
  refine Wq<|Wd 37 51 (by decide) rfl mixed rfl<|qM rfl<|Od rfl rfl (Nc rfl rfl)<|qF rfl ty114 rfl<|qL rfl ty27 rfl<|qM rfl<|Od rfl rfl (Nc rfl rfl)<|qF rfl ty114 rfl<|qL rfl ty3 rfl<|Od rfl rfl (LO.sub_in rfl rfl rfl (iW _ (by omega)))<|qJ rfl he ty27 ty3 (by omega)<|Od rfl rfl (Li rfl rfl hg ty3 rfl)<|qM rfl<|qY rfl (mod_any _ _ hn hn2) fok17 rfl<|qA rfl<|Nl ⟨by kernel_rfl,(Wz ⟨.inl rfl,_,up mt 0 (some (deckC l (at_ + 1))),Rc (Rt0 rfl) Rv,aU rfl aM,?_⟩)⟩
  exact ⟨by unfold nextV;rw [dif_pos hb];rfl,by unfold nextAt deckC;rw [if_pos hb]⟩
theorem new_any (l:List Int):AFn Tryz.prog 16 0 [.isl (l.map fun z=>.base (.int .i64 z)) l.length] mt (.own 0 0) (up mt 0 (some (deckC l 0))):=by
 refine AFn.eq Tryz.func16 rfl rfl (Nat.le_of_ble_eq_true rfl) ?_
 unfold deckC
 refine Wq<|qW 0 1 rfl<|qA rfl<|Nl<|Wq<|qW 5 9 rfl<|qM rfl<|Od rfl rfl (Bs rfl ty114 (.cons rfl rfl rfl rfl (Sl rfl) .nil))<|qC rfl<|qA rfl<|Nl<|W.rename [(0,7)] 1 (T':=up mt 2 (some (.own 0 0))) (H':=up mt 0 (some (deckC l 0))) (by decide) (aU (.inr ⟨rfl,fun _ h=>by cases h⟩) aM) (aU ⟨rfl,_,rfl,.inr ⟨rfl,rfl⟩⟩ aM) (Wz ⟨.inl rfl,_,up mt 0 (some (deckC l 0)),Rc (Rt0 rfl) Rv,aU rfl aM,?_⟩)
 exact ⟨rfl,rfl⟩
open Go.ChangeShapes Go.WideShapes Go.ChangeAt Go.RowKit
theorem Tryz.own:ownKnob Tryz.prog.godebug=none:=by kernel_rfl
theorem Tryz.laidOut:laidOutB Tryz.prog=true:=by kernel_rfl
theorem trodAll_stays {H:Type} {enc:TypeId × Value→H} {P:Program} (hl:laidOutB P=true) {W W':World} {sp':Nat→Bool} :
 ∀ {ts:List TypeId} {vs:List Value} {ds:List (DataW H)} {ps:List MemPlace},(∀ t∈ts,P.readableRec t=true∧t < P.types.size) →
  DataW.TrodAll enc P W 0 (fun _=>true) true ts vs ds ps→(∀ p∈ps,W.sameAt W' p)→(∀ p∈ps,sp' p.block=true)→DataW.TrodAll enc P W' 0 sp' true ts vs ds ps
 | [],[],[],_,_,h,_,_=>h
 | _::_,_::_,_::_,_,hT,⟨p,q,h1,h2,e⟩,hsame,hs =>
  ⟨p,q,WideElems.Trod_stays hl (hT _ (List.mem_cons.2 (Or.inl rfl))).1 (hT _ (List.mem_cons.2 (Or.inl rfl))).2 h1 (fun x hx=>hsame x (by rw [e];exact List.mem_append_left _ hx)) (fun x hx=>hs x (by rw [e];exact List.mem_append_left _ hx)),
   trodAll_stays hl (fun t ht=>hT t (List.mem_cons.2 (Or.inr ht))) h2 (fun x hx=>hsame x (by rw [e];exact List.mem_append_right _ hx)) (fun x hx=>hs x (by rw [e];exact List.mem_append_right _ hx)),e⟩
theorem law_post {H:Type} {enc:TypeId × Value→H} {P:Program} {f:Func} {s:ChangeSpec} {fresh handsOn again:Bool} {W W':World} {args:Array Value} {ds gs:List (DataW H)} {before:List MemPlace}
 (hl:laidOutB P=true) (hT:∀ t∈f.params.toList,P.readableRec t=true∧t < P.types.size) (tb:TypeId) (hb1:f.resultTypes=#[tb]) (hb2:P.underlying tb=some .bool) (hv:s.vars=[])
 (hW:DataW.Whole enc P f.params.toList s.vars false W args.toList ds gs before)
 (hs:(s.fn H (ds++gs)).results=[.lit (.bool true)]∧(s.fn H (ds++gs)).args=ds∧(s.fn H (ds++gs)).vars=[]) (hb:Below W.heap.size W W') :
 s.post enc P f false fresh handsOn again W args (.bool true) W':=by
 have hlt:∀ p∈before,p.block < W.heap.size:=fun p hp=>hW.lt p hp
 have hW0:=hW
 obtain ⟨p,q,hA,hV,rfl,hz,hn⟩:=hW
 rw [hv] at hV
 obtain ⟨rfl,rfl⟩:=trodVars_none hV
 have hsame:∀ x∈p,W.sameAt W' x:=fun x hx=>hb.same (hlt x (List.mem_append_left _ hx))
 have hres:∀ (b:Nat) (sp:Nat→Bool) (hd:Bool),DataW.TrodAll enc P W' b sp hd f.resultTypes.toList ((Value.bool true).resultList f.resultTypes.size) (s.fn H (ds++[])).results []:=by
  intro b sp hd
  rw [hb1,hs.1]
  exact trodAll_mk1 (shut_bool hb2 true)
 have hargs:∀ sp:Nat→Bool,(∀ x∈p++[],sp x.block=true)→DataW.TrodAll enc P W' 0 sp true f.params.toList args.toList (s.fn H (ds++[])).args p:=by
  intro sp hsp
  rw [hs.2.1]
  exact trodAll_stays hl hT hA hsame (fun x hx=>hsp x (List.mem_append_left _ hx))
 have hold:∀ x∈p++[],(fun b=>decide (b < W.heap.size)) x.block=true:=fun x hx=>by simpa using hlt x hx
 have hvs:∀ sp:Nat→Bool,DataW.TrodVars enc P W' sp s.vars (s.fn H (ds++[])).vars []:=by
  intro sp
  rw [hv,hs.2.2]
  simp [DataW.TrodVars]
 refine ⟨ds,[],p++[],[],p,[],hW0,hres _ _ _,hargs _ hold,hvs _,World.keptBut_mono (fun x hx=>⟨hx,?_⟩) (hb.frame (·∈p++[])),fun _=>?_⟩
 ·rw [List.mem_append] at hx
  exact Or.inr hx
 ·refine ⟨ok_one hb1 rfl (okWide_bool_mk hb2 true),_,_,([]++p)++[],⟨[]++p,[],trodAll_append (hargs _ (fun _ _=>rfl)) (hres _ _ _),hvs _,rfl,?_,?_⟩,?_⟩
  ·intro b off hp
   have hin:MemPlace.cell b off∈p++[]:=by simpa using hp
   rw [hb.frozen (hlt _ hin)]
   exact hz b off hin
  ·intro ha;cases ha
  ·intro x hx _
   simpa using hx
end Go.Proofs.YtlcndmciognneaaGreatDoor
namespace Go.Proofs.YtlcndmciognneaaGreatDoor
open Go.ChangeShapes Go.WideShapes Go.ChangeAt Go.RowKit
theorem Tryz.gHead : Tryz.prog.globalNamed "exchangepoint/arp.head" = some 0 := by kernel_rfl
theorem Tryz.tHead:(Tryz.prog.globals[0]?).map (·.type)=some 22:=by kernel_rfl
set_option maxRecDepth 20000 in
theorem open_u8s {H:Type} {enc:TypeId × Value→H} {w:World} {base:Nat} {spare:Nat→Bool} {held:Bool} {fuel:Nat} {t:TypeId} {n:Nat} {cs:List Value} {y:DataW H × List MemPlace}
 (ht:Tryz.prog.underlying t=some (.array n 5)) (hc:Tryz.prog.cellsOf t=n) (h:DataW.trod enc Tryz.prog w base spare held fuel t cs=some y) :
 ∃ ks:List Int,cs=ks.map (Value.int .u8)∧y.1=.agg (ks.map fun k=>.lit (.int .u8 k)):=by
 obtain ⟨xs,m,_,hx,hl,hn,hel⟩:=DataW.trod_array ht h
 have hce:Tryz.prog.cellsOf 5=1:=by kernel_rfl
 rw [hc] at hl
 rw [hce] at hel
 have key:∀ i,i < n→∃ k:Int,cs[i]?=some (.int .u8 k)∧(xs[i]?).map (·.1)=some (.lit (.int .u8 k)):=fun i hi=>by
  have h1:=hel i hi
  rw [Nat.mul_one] at h1
  have h2:xs[i]?=some xs[i]:=List.getElem?_eq_getElem (by omega)
  rw [h2] at h1
  obtain ⟨k,e1,e2,_⟩:=DataW.trod_int Tryz.underlying5 h1
  refine ⟨k,?_,by rw [h2];simp [e2]⟩
  have h3:((cs.drop i).take 1)[0]?=some (.int .u8 k):=by rw [e1];rfl
  simpa using h3
 have hks:∃ ks:List Int,ks.length=n∧∀ i,i < n→∀ k,cs[i]?=some (.int .u8 k)→ks[i]?=some k:=by
  refine ⟨cs.map fun v=>match v with
   | .int _ z=>z
   | _=>0,by simpa using hl,fun i hi k hk=>by simp [hk]⟩
 obtain ⟨ks,hkl,hk⟩:=hks
 refine ⟨ks,?_,?_⟩
 ·refine List.ext_getElem? fun i=>?_
  by_cases hi:i < n
  ·obtain ⟨k,h1,_⟩:=key i hi
   rw [h1,List.getElem?_map,hk i hi k h1];rfl
  ·rw [List.getElem?_eq_none (by omega),List.getElem?_eq_none (by simp;omega)]
 ·rw [hx]
  show DataW.agg _=_
  congr 1
  refine List.ext_getElem? fun i=>?_
  by_cases hi:i < n
  ·obtain ⟨k,h1,h2⟩:=key i hi
   rw [List.getElem?_map,h2,List.getElem?_map,hk i hi k h1];rfl
  ·rw [List.getElem?_eq_none (by simp;omega),List.getElem?_eq_none (by simp;omega)]
theorem lits_inj {H:Type} {a b:List Int} (h:(a.map fun k=>(DataW.lit (.int .u8 k):DataW H))=b.map fun k=>.lit (.int .u8 k)):a=b:=by
 induction a generalizing b with
 | nil=>cases b with
  | nil=>rfl
  | cons y b=>cases h
 | cons x a ih =>
  cases b with
  | nil=>cases h
  | cons y b =>
   simp only [List.map_cons,List.cons.injEq,DataW.lit.injEq,Lit.int.injEq,true_and] at h
   rw [h.1,ih h.2]
section
variable {H:Type} {enc:TypeId × Value→H}
theorem opInt:Opens enc Tryz.prog 3 (fun (z:Int)=>[.base (.int .i64 z)]) (fun z=>(Lit.int .i64 z).wf=true):=.int Tryz.underlying3
theorem opInts:Opens enc Tryz.prog 27 (fun (l:List Int)=>[.isl (l.map fun z=>.base (.int .i64 z)) l.length]) (fun l=>l.length≤9223372036854775807) :=
 (Opens.slice (n:=1) Tryz.underlying27 opInt (by kernel_rfl) (by decide) (fun _ _=>rfl)).map id (fun l _=>by rw [List.map_eq_flatMap];rfl) (fun l h=>by have:=h.1;unfold maxLen at this;simp only [id];omega)
end
end Go.Proofs.YtlcndmciognneaaGreatDoor
namespace Go.Proofs.YtlcndmciognneaaGreatDoor
open Go.RowKit
def accN (f:Nat→Int):Nat→Int
 | 0=>0
 | k + 1=>accN f k + (if k % 2=0 then f k * 256 else f k)
def foldS (n:Int):Int:=if n=0 then 0 else (n - 1) % 65535 + 1
def gB (bs:List Int) (k:Nat):Int:=bs.getD k 0
def accL (bs:List Int):Int:=accN (gB bs) bs.length
def sumL (bs:List Int):Int:=65535 - foldS (accL bs)
def IsB (bs:List Int):Prop:=∀ x∈bs,0≤x∧x≤255
theorem IsB.at {bs:List Int} (h:IsB bs) (k:Nat):0≤gB bs k∧gB bs k≤255:=by
 unfold gB
 by_cases hk:k < bs.length
 ·simp only [List.getD_eq_getElem?_getD,List.getElem?_eq_getElem hk,Option.getD_some]
  exact h _ (List.getElem_mem hk)
 ·simp [List.getElem?_eq_none (Nat.le_of_not_lt hk)]
theorem accN_bd (f:Nat→Int) (k:Nat) (h:∀ j,0≤f j∧f j≤255):0≤accN f k∧accN f k≤65280 * k:=by
 induction k with
 | zero=>simp [accN]
 | succ k ih =>
  have h2:=h k
  unfold accN
  split<;>omega
theorem foldS_small {n:Int} (h0:0≤n) (h:n≤65535):foldS n=n:=by
 unfold foldS;split<;>omega
theorem foldS_step {n:Int} (h:65535 < n):foldS (n / 65536 + n % 65536)=foldS n:=by
 unfold foldS;rw [if_neg (by omega),if_neg (by omega)];omega
theorem sumL_bd {bs:List Int} (h:IsB bs):0≤sumL bs∧sumL bs≤65535:=by
 have:=(accN_bd (gB bs) bs.length (fun j=>h.at j)).1
 unfold sumL foldS accL;split<;>omega
def upd (f:Nat→Int) (i:Nat) (x:Int):Nat→Int:=fun j=>if j=i then x else f j
theorem upd_same (f:Nat→Int) (i:Nat) (x:Int):upd f i x i=x:=by simp [upd]
theorem upd_far (f:Nat→Int) {i j:Nat} (h:j≠i) (x:Int):upd f i x j=f j:=by simp [upd,h]
def wt (i:Nat):Int:=if i % 2=0 then 256 else 1
theorem accN_wt (f:Nat→Int) (k:Nat):accN f (k + 1)=accN f k + wt k * f k:=by
 unfold wt;rw [accN];split<;>omega
theorem accN_congr {f g:Nat→Int} {k:Nat} (h:∀ j,j < k→f j=g j):accN f k=accN g k:=by
 induction k with
 | zero=>rfl
 | succ k ih=>rw [accN,accN,ih (fun j hj=>h j (by omega)),h k (by omega)]
theorem accN_upd (f:Nat→Int) (i:Nat) (x:Int) (n:Nat) (h:i < n):accN (upd f i x) n=accN f n + wt i * (x - f i):=by
 induction n with
 | zero=>omega
 | succ n ih =>
  rw [accN_wt,accN_wt]
  by_cases hi:i=n
  ·subst hi
   rw [upd_same,accN_congr (g:=f) (fun j hj=>upd_far f (by omega) x),Int.mul_sub]
   omega
  ·rw [ih (by omega),upd_far f (by omega)]
   omega
theorem gB_set (bs:List Int) (i:Nat) (x:Int) (h:i < bs.length):gB (bs.set i x)=upd (gB bs) i x:=by
 funext j
 unfold gB upd
 by_cases hj:j=i
 ·subst hj;simp [List.getD,h]
 ·simp [List.getD,Ne.symm hj,hj]
structure Ad where
 v6:Bool
 hi:Int
 lo:Int
theorem IsB.append {xs ys:List Int} (h:IsB xs) (k:IsB ys):IsB (xs++ys):=by
 intro y hy
 rcases List.mem_append.1 hy with h1|h1
 ·exact h y h1
 ·exact k y h1
def validA (v6:Bool) (hi lo:Int):Bool:=v6 || (hi == 0 && decide (lo < 4294967296))
def fbStep (a:Int × Int) (x:Int):Int × Int:=(bits .or .u64 (IntKind.u64.wrap (a.1 * 256)) (a.2 / 72057594037927936),bits .or .u64 (IntKind.u64.wrap (a.2 * 256)) x)
def fb (bs:List Int):Int × Int:=bs.foldl fbStep (0,0)
theorem fb_snoc (bs:List Int) (k:Nat) (h:k < bs.length):fb (bs.take (k + 1))=fbStep (fb (bs.take k)) (gB bs k):=by
 unfold fb
 rw [List.take_succ_eq_append_getElem h,List.foldl_append]
 simp [gB,List.getD,h]
def U64 (x:Int):Prop:=0≤x∧x < 18446744073709551616
theorem u64_bits (op:BinOp) (x y:Int):U64 (bits op .u64 x y):=by
 have:=bounds_u64 (wf_bits op .u64 x y)
 unfold U64;omega
theorem fbStep_bd (a:Int × Int) (x:Int):U64 (fbStep a x).1∧U64 (fbStep a x).2:=by
 simp only [fbStep]
 exact ⟨u64_bits _ _ _,u64_bits _ _ _⟩
theorem fb_bd (bs:List Int):U64 (fb bs).1∧U64 (fb bs).2:=by
 unfold fb
 rw [← List.foldr_reverse]
 generalize bs.reverse=l
 cases l with
 | nil=>unfold U64;simp
 | cons x l =>
  simp only [List.foldr_cons]
  exact fbStep_bd _ _
def byteN (N:Int) (i:Nat):Int:=N / 256 ^ i % 256
def beN (n:Nat) (N:Int):List Int:=(List.range n).map fun p=>byteN N (n - 1 - p)
def addrB (v6:Bool) (hi lo:Int):List Int:=beN (if v6 then 16 else 4) (hi * 18446744073709551616 + lo)
theorem addrB_len (v6:Bool) (hi lo:Int):(addrB v6 hi lo).length=if v6 then 16 else 4:=by unfold addrB;simp [beN]
theorem byteN_bd (N:Int) (i:Nat):0≤byteN N i∧byteN N i≤255:=by unfold byteN;omega
theorem beN_len (n:Nat) (N:Int):(beN n N).length=n:=by simp [beN]
theorem beN_isB (n:Nat) (N:Int):IsB (beN n N):=by
 intro x hx
 simp only [beN,List.mem_map] at hx
 obtain ⟨p,_,rfl⟩:=hx
 exact byteN_bd _ _
theorem u64_or_split {hi lo:Int} (_h0:0≤hi) (l0:0≤lo) (l1:lo < 18446744073709551616) :
 bits .or .u64 (lo / 256) (IntKind.u64.wrap (hi * 72057594037927936))=lo / 256 + hi % 256 * 72057594037927936:=by
 have e:IntKind.u64.wrap (hi * 72057594037927936)=hi % 256 * 72057594037927936:=by rw [IntKind.wrap_u64];omega
 rw [e]
 obtain ⟨a,ha⟩:=Int.eq_ofNat_of_zero_le (show 0≤lo / 256 by omega)
 obtain ⟨b,hb⟩:=Int.eq_ofNat_of_zero_le (show 0≤hi % 256 by omega)
 rw [ha,hb]
 have hb1:(b:Int) * 72057594037927936=((2 ^ 56 * b:Nat):Int):=by omega
 rw [hb1,u64_or_nat a (2 ^ 56 * b) (by omega) (by omega),Nat.or_comm,← Nat.two_pow_add_eq_or_of_lt (i:=56) (by omega) b]
 omega
theorem beN_N (hi lo:Int) (_l0:0≤lo) (_l1:lo < 18446744073709551616):(hi * 18446744073709551616 + lo) / 256=hi / 256 * 18446744073709551616 + (lo / 256 + hi % 256 * 72057594037927936):=by omega
theorem div_succ (N:Int) (j:Nat):N / 256 ^ (j + 1)=N / 256 ^ j / 256:=by
 rw [Int.pow_succ,Int.ediv_ediv_of_nonneg (Int.le_of_lt (Int.pow_pos (by decide)))]
def preB (n j:Nat) (N:Int):List Int:=(List.range j).map fun p=>byteN N (n - 1 - p)
theorem preB_len (n j:Nat) (N:Int):(preB n j N).length=j:=by simp [preB]
theorem preB_snoc (n j:Nat) (N:Int):preB n (j + 1) N=preB n j N++[byteN N (n - 1 - j)]:=by simp [preB,List.range_succ]
theorem byteN_at (hi lo:Int) (l1:0≤lo) (l2:lo < 18446744073709551616) (i:Nat) (h:i < 16) :
 (if 8≤i then hi else lo) / 2 ^ (8 * (i % 8)) % 256=byteN (hi * 18446744073709551616 + lo) i:=by
 unfold byteN
 obtain rfl|rfl|rfl|rfl|rfl|rfl|rfl|rfl|rfl|rfl|rfl|rfl|rfl|rfl|rfl|rfl:i=0∨i=1∨i=2∨i=3∨i=4∨i=5∨i=6∨i=7∨i=8∨i=9∨i=10∨i=11∨i=12∨i=13∨i=14∨i=15:=by omega
 all_goals (simp;try omega)
def mostP (v6:Bool):Int:=if v6 then 1460 else 1480
def validP (s d:Ad) (p t:Int) (n:Nat):Bool :=
 validA s.v6 s.hi s.lo && (validA d.v6 d.hi d.lo && ((s.v6 == d.v6) && (decide (0≤p) && (decide (p≤255) && (decide (0≤t) && (decide (t≤255) && decide ((n:Int)≤mostP s.v6)))))))
def enc6 (s d:Ad) (p t:Int) (n:Nat) (bs:List Int):List Int:=[96,0,0,0,(n:Int) / 256 % 256,(n:Int) % 256,p,t]++(addrB s.v6 s.hi s.lo++addrB d.v6 d.hi d.lo)++bs
def hd4 (bs:List Int):Int:=gB bs 0 % 16 * 4
def wh4 (bs:List Int):Int:=gB bs 2 * 256 + gB bs 3
def code4 (n:Nat) (bs:List Int):Int :=
 if n < 20 then 4 else if hd4 bs < 20∨wh4 bs < hd4 bs then 5 else if (n:Int) < wh4 bs then 4 else if sumL (bs.take (hd4 bs).toNat)≠0 then 6 else if (gB bs 6 * 256 + gB bs 7) % 16384≠0 then 5 else 0
structure Rd where
 s:Ad
 d:Ad
 p:Int
 t:Int
 bs:List Int
def code6 (n:Nat) (bs:List Int):Int:=if n < 40∨(n:Int) < 40 + (gB bs 4 * 256 + gB bs 5) then 4 else 0
def rd4 (bs:List Int):Rd:=⟨⟨false,(fb ((bs.drop 12).take 4)).1,(fb ((bs.drop 12).take 4)).2⟩,⟨false,(fb ((bs.drop 16).take 4)).1,(fb ((bs.drop 16).take 4)).2⟩,gB bs 9,gB bs 8,(bs.take (wh4 bs).toNat).drop (hd4 bs).toNat⟩
def rd6 (bs:List Int):Rd:=⟨⟨true,(fb ((bs.drop 8).take 16)).1,(fb ((bs.drop 8).take 16)).2⟩,⟨true,(fb ((bs.drop 24).take 16)).1,(fb ((bs.drop 24).take 16)).2⟩,gB bs 6,gB bs 7,(bs.drop 40).take (gB bs 4 * 256 + gB bs 5).toNat⟩
def codeR (bs:List Int):Int:=if bs.length=0 then 4 else if gB bs 0 / 16=4 then code4 bs.length bs else if gB bs 0 / 16=6 then code6 bs.length bs else 5
def rdP (bs:List Int):Rd:=if gB bs 0 / 16=4 then rd4 bs else rd6 bs
theorem u64_shl8 {a x:Int} (ha:U64 a) (hx:0≤x∧x≤255):bits .or .u64 (IntKind.u64.wrap (a * 256)) x=a % 72057594037927936 * 256 + x:=by
 have ha1:0≤a:=ha.1
 have e:IntKind.u64.wrap (a * 256)=a % 72057594037927936 * 256:=by rw [IntKind.wrap_u64];omega
 rw [e]
 obtain ⟨p,hp⟩:=Int.eq_ofNat_of_zero_le (show 0≤a % 72057594037927936 by omega)
 obtain ⟨q,hq⟩:=Int.eq_ofNat_of_zero_le hx.1
 rw [hp,hq]
 have hb1:(p:Int) * 256=((2 ^ 8 * p:Nat):Int):=by omega
 rw [hb1,u64_or_nat (2 ^ 8 * p) q (by omega) (by omega),← Nat.two_pow_add_eq_or_of_lt (i:=8) (by omega) p]
 omega
theorem fbStep_val {a:Int × Int} {x:Int} (h1:U64 a.1) (h2:U64 a.2) (hx:0≤x∧x≤255) :
 (fbStep a x).1 * 18446744073709551616 + (fbStep a x).2=((a.1 * 18446744073709551616 + a.2) * 256 + x) % 340282366920938463463374607431768211456:=by
 obtain ⟨h,l⟩:=a
 simp only at h1 h2
 have e1:(fbStep (h,l) x).1=h % 72057594037927936 * 256 + l / 72057594037927936:=u64_shl8 h1 (by unfold U64 at h2;omega)
 have e2:(fbStep (h,l) x).2=l % 72057594037927936 * 256 + x:=u64_shl8 h2 hx
 rw [e1,e2]
 unfold U64 at h1 h2
 simp only
 omega
theorem beN_take (n k:Nat) (N:Int) (h:k < n):gB (beN n N) k=byteN N (n - 1 - k):=by
 unfold gB beN
 simp [List.getD,h]
theorem pow_le_big {n:Nat} (h:n≤16):(256:Int) ^ n≤340282366920938463463374607431768211456:=by
 have:(256:Nat) ^ n≤256 ^ 16:=Nat.pow_le_pow_right (by omega) h
 have e:((256:Nat) ^ n:Int)=(256:Int) ^ n:=by simp
 omega
theorem fb_beN (n:Nat) (N:Int) (hn:n≤16) (h0:0≤N) (h1:N < 256 ^ n):∀ k,k≤n→(fb ((beN n N).take k)).1 * 18446744073709551616 + (fb ((beN n N).take k)).2=N / 256 ^ (n - k):=by
 have hb:=pow_le_big hn
 intro k
 induction k with
 | zero =>
  intro _
  simp [fb]
  rw [Int.ediv_eq_zero_of_lt h0 h1]
 | succ k ih =>
  intro hk
  have ihk:=ih (by omega)
  have hl:k < (beN n N).length:=by rw [beN_len];omega
  rw [fb_snoc _ _ hl]
  obtain ⟨b1,b2⟩:=fb_bd ((beN n N).take k)
  have hx:0≤gB (beN n N) k∧gB (beN n N) k≤255:=(beN_isB n N).at k
  rw [fbStep_val b1 b2 hx,ihk,beN_take n k N (by omega)]
  have e:n - k=(n - (k + 1)) + 1:=by omega
  have e2:n - 1 - k=n - (k + 1):=by omega
  rw [e,div_succ,e2]
  unfold byteN
  have hX0:0≤N / 256 ^ (n - (k + 1)):=Int.ediv_nonneg h0 (Int.le_of_lt (Int.pow_pos (by decide)))
  have hX1:N / 256 ^ (n - (k + 1))≤N:=Int.ediv_le_self _ h0
  generalize N / 256 ^ (n - (k + 1))=X at *
  omega
theorem fb_addrB {v6:Bool} {hi lo:Int} (hv:validA v6 hi lo=true) (h1:U64 hi) (h2:U64 lo):fb (addrB v6 hi lo)=(hi,lo):=by
 unfold U64 at h1 h2
 obtain ⟨b1,b2⟩:=fb_bd (addrB v6 hi lo)
 unfold U64 at b1 b2
 have hf:addrB v6 hi lo=beN (if v6 then 16 else 4) (hi * 18446744073709551616 + lo):=rfl
 rw [hf] at b1 b2 ⊢
 have key:(fb (beN (if v6 then 16 else 4) (hi * 18446744073709551616 + lo))).1 * 18446744073709551616 + (fb (beN (if v6 then 16 else 4) (hi * 18446744073709551616 + lo))).2=hi * 18446744073709551616 + lo:=by
  cases v6 with
  | true =>
   have hp:(256:Int) ^ 16=340282366920938463463374607431768211456:=by decide
   have:=fb_beN 16 (hi * 18446744073709551616 + lo) (by omega) (by omega) (by omega) 16 (by omega)
   rw [List.take_of_length_le (by rw [beN_len];omega)] at this
   simpa using this
  | false =>
   simp [validA] at hv
   have hp:(256:Int) ^ 4=4294967296:=by decide
   have:=fb_beN 4 (hi * 18446744073709551616 + lo) (by omega) (by omega) (by omega) 4 (by omega)
   rw [List.take_of_length_le (by rw [beN_len];omega)] at this
   simpa using this
 generalize fb (beN (if v6 then 16 else 4) (hi * 18446744073709551616 + lo))=r at *
 obtain ⟨x,y⟩:=r
 simp only at *
 have e1:x=hi:=by omega
 have e2:y=lo:=by omega
 rw [e1,e2]
theorem foldS_full {n:Int} (h:0≤n):foldS (n + (65535 - foldS n))=65535:=by
 unfold foldS
 split<;>split<;>omega
theorem valid_parts {s d:Ad} {p t:Int} {n:Nat} (h:validP s d p t n=true):validA s.v6 s.hi s.lo=true∧validA d.v6 d.hi d.lo=true∧s.v6=d.v6∧(0≤p∧p≤255)∧(0≤t∧t≤255)∧(n:Int)≤mostP s.v6:=by
 unfold validP at h
 simp only [Bool.and_eq_true,decide_eq_true_eq,beq_iff_eq] at h
 obtain ⟨h1,h2,h3,h4,h5,h6,h7,h8⟩:=h
 exact ⟨h1,h2,h3,⟨h4,h5⟩,⟨h6,h7⟩,h8⟩
theorem most_le (v6:Bool):mostP v6≤1480:=by cases v6<;>decide
theorem back6 {s d:Ad} {p t:Int} {bs more:List Int} (hv:validP s d p t bs.length=true) (hs1:U64 s.hi) (hs2:U64 s.lo) (hd1:U64 d.hi) (hd2:U64 d.lo) (h6:s.v6=true) :
 codeR (enc6 s d p t bs.length bs++more)=0∧rdP (enc6 s d p t bs.length bs++more)=⟨s,d,p,t,bs⟩:=by
 obtain ⟨va,vb,hvv,hp,ht,hm⟩:=valid_parts hv
 have hm2:=most_le s.v6
 obtain ⟨sv,sh,sl⟩:=s
 obtain ⟨dv,dh,dl⟩:=d
 simp only at *
 subst hvv h6
 have fa:=fb_addrB va hs1 hs2
 have fc:=fb_addrB vb hd1 hd2
 have la:(addrB true sh sl).length=16:=addrB_len _ _ _
 have lb:(addrB true dh dl).length=16:=addrB_len _ _ _
 unfold enc6
 generalize hA:addrB true sh sl=A at *
 generalize hBv:addrB true dh dl=B at *
 have hlen:(([96,0,0,0,(bs.length:Int) / 256 % 256,(bs.length:Int) % 256,p,t]++(A++B)++bs)++more).length=40 + bs.length + more.length:=by simp [la,lb]<;>omega
 have e8:((([96,0,0,0,(bs.length:Int) / 256 % 256,(bs.length:Int) % 256,p,t]++(A++B)++bs)++more).drop 8)=A++(B++(bs++more)):=by simp
 have e24:((([96,0,0,0,(bs.length:Int) / 256 % 256,(bs.length:Int) % 256,p,t]++(A++B)++bs)++more).drop 24)=B++(bs++more):=by
  rw [show 24=8 + 16 from rfl,← List.drop_drop,e8,← la,List.drop_left]
 have e40:((([96,0,0,0,(bs.length:Int) / 256 % 256,(bs.length:Int) % 256,p,t]++(A++B)++bs)++more).drop 40)=bs++more:=by
  rw [show 40=24 + 16 from rfl,← List.drop_drop,e24,← lb,List.drop_left]
 have g0:gB (([96,0,0,0,(bs.length:Int) / 256 % 256,(bs.length:Int) % 256,p,t]++(A++B)++bs)++more) 0=96:=by simp [gB]
 have g4:gB (([96,0,0,0,(bs.length:Int) / 256 % 256,(bs.length:Int) % 256,p,t]++(A++B)++bs)++more) 4 * 256 + gB (([96,0,0,0,(bs.length:Int) / 256 % 256,(bs.length:Int) % 256,p,t]++(A++B)++bs)++more) 5=(bs.length:Int):=by
  simp [gB];omega
 have g6:gB (([96,0,0,0,(bs.length:Int) / 256 % 256,(bs.length:Int) % 256,p,t]++(A++B)++bs)++more) 6=p:=by simp [gB]
 have g7:gB (([96,0,0,0,(bs.length:Int) / 256 % 256,(bs.length:Int) % 256,p,t]++(A++B)++bs)++more) 7=t:=by simp [gB]
 generalize ([96,0,0,0,(bs.length:Int) / 256 % 256,(bs.length:Int) % 256,p,t]++(A++B)++bs)++more=L at *
 constructor
 ·unfold codeR code6
  rw [g0,g4,hlen,if_neg (by omega),if_neg (by decide),if_pos (by decide),if_neg (by omega)]
 ·unfold rdP rd6
  rw [g0,if_neg (by decide),g4,g6,g7,e8,e24,e40,← la,List.take_left,la,← lb,List.take_left,fa,fc,Int.toNat_natCast,List.take_left]
end Go.Proofs.YtlcndmciognneaaGreatDoor
