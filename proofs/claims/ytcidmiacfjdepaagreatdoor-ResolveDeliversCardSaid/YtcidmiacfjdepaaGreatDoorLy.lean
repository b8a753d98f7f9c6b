/-
  The types of the program. The list of numbers that everything is made from: the next number, a new list. From 'the walk returns true and leaves what lay there as it was' to a statement's row; the arguments that come in, as the abstract machine sees them. The listed variable holds what the abstract machine says it holds; numbers and lists of numbers, as they come in.
-/
import Derived.Test.YtcidmiacfjdepaaGreatDoorMab
import Derived.KernelRfl
import Derived.Test.YtcidmiacfjdepaaGreatDoorRows
import Derived.ProofKit
import Derived.Test.YtcidmiacfjdepaaGreatDoorGt
import Derived.Test.YtcidmiacfjdepaaGreatDoorCards
import Derived.Test.YtcidmiacfjdepaaGreatDoorTie
import Derived.SevenTiedAt
import Derived.LaidMore
import Derived.LaidHandle
import Derived.OpenShut
namespace Go.Proofs.YtcidmiacfjdepaaGreatDoor
open Go.RowKit
theorem ty3:TyOK Tryz.prog 3 (.int .i64) 1 8 [.base (.int .i64 0)]:=by unfold TyOK;kernel_rfl
theorem ty4:TyOK Tryz.prog 4 (.bool) 1 1 [.base (.bool false)]:=by unfold TyOK;kernel_rfl
theorem ty5:TyOK Tryz.prog 5 (.int .u8) 1 1 [.base (.int .u8 0)]:=by unfold TyOK;kernel_rfl
theorem ty9:TyOK Tryz.prog 9 (.str) 1 16 [.base (.string ⟨#[]⟩)]:=by unfold TyOK;kernel_rfl
theorem ty22:TyOK Tryz.prog 22 (.arr 6 5) 6 6 [.base (.int .u8 0),.base (.int .u8 0),.base (.int .u8 0),.base (.int .u8 0),.base (.int .u8 0),.base (.int .u8 0)]:=by unfold TyOK;kernel_rfl
theorem ty23:TyOK Tryz.prog 23 (.arr 6 5) 6 6 [.base (.int .u8 0),.base (.int .u8 0),.base (.int .u8 0),.base (.int .u8 0),.base (.int .u8 0),.base (.int .u8 0)]:=by unfold TyOK;kernel_rfl
theorem ty24:TyOK Tryz.prog 24 (.sl 5) 1 24 [.nils]:=by unfold TyOK;kernel_rfl
theorem ty26:TyOK Tryz.prog 26 (.st [(0,6,23),(6,6,23),(12,1,3),(13,1,3),(14,1,24)]) 15 56 [.base (.int .u8 0),.base (.int .u8 0),.base (.int .u8 0),.base (.int .u8 0),.base (.int .u8 0),.base (.int .u8 0),.base (.int .u8 0),.base (.int .u8 0),.base (.int .u8 0),.base (.int .u8 0),.base (.int .u8 0),.base (.int .u8 0),.base (.int .i64 0),.base (.int .i64 0),.nils]:=by unfold TyOK;kernel_rfl
theorem ty27:TyOK Tryz.prog 27 (.sl 3) 1 24 [.nils]:=by unfold TyOK;kernel_rfl
theorem ty30:TyOK Tryz.prog 30 (.sl 35) 1 24 [.nils]:=by unfold TyOK;kernel_rfl
theorem ty31:TyOK Tryz.prog 31 (.sl 85) 1 24 [.nils]:=by unfold TyOK;kernel_rfl
theorem ty32:TyOK Tryz.prog 32 (.sl 23) 1 24 [.nils]:=by unfold TyOK;kernel_rfl
theorem ty33:TyOK Tryz.prog 33 (.sl 42) 1 24 [.nils]:=by unfold TyOK;kernel_rfl
theorem ty35:TyOK Tryz.prog 35 (.st [(0,1,3),(1,1,3),(2,1,3),(3,1,32),(4,1,33),(5,1,33),(6,1,3),(7,1,3)]) 8 112 [.base (.int .i64 0),.base (.int .i64 0),.base (.int .i64 0),.nils,.nils,.nils,.base (.int .i64 0),.base (.int .i64 0)]:=by unfold TyOK;kernel_rfl
theorem ty39:TyOK Tryz.prog 39 (.sl 26) 1 24 [.nils]:=by unfold TyOK;kernel_rfl
theorem ty40:TyOK Tryz.prog 40 (.int .u64) 1 8 [.base (.int .u64 0)]:=by unfold TyOK;kernel_rfl
theorem ty42:TyOK Tryz.prog 42 (.st [(0,1,4),(1,1,40),(2,1,40)]) 3 24 [.base (.bool false),.base (.int .u64 0),.base (.int .u64 0)]:=by unfold TyOK;kernel_rfl
theorem ty50:TyOK Tryz.prog 50 (.st [(0,3,42),(3,1,3)]) 4 32 [.base (.bool false),.base (.int .u64 0),.base (.int .u64 0),.base (.int .i64 0)]:=by unfold TyOK;kernel_rfl
theorem ty51:TyOK Tryz.prog 51 (.sl 95) 1 24 [.nils]:=by unfold TyOK;kernel_rfl
theorem ty53:TyOK Tryz.prog 53 (.st [(0,4,50),(4,4,50),(8,1,51),(9,1,51)]) 10 112 [.base (.bool false),.base (.int .u64 0),.base (.int .u64 0),.base (.int .i64 0),.base (.bool false),.base (.int .u64 0),.base (.int .u64 0),.base (.int .i64 0),.nils,.nils]:=by unfold TyOK;kernel_rfl
theorem ty64:TyOK Tryz.prog 64 (.st [(0,1,3),(1,6,23),(7,3,42),(10,6,23),(16,3,42)]) 19 72 [.base (.int .i64 0),.base (.int .u8 0),.base (.int .u8 0),.base (.int .u8 0),.base (.int .u8 0),.base (.int .u8 0),.base (.int .u8 0),.base (.bool false),.base (.int .u64 0),.base (.int .u64 0),.base (.int .u8 0),.base (.int .u8 0),.base (.int .u8 0),.base (.int .u8 0),.base (.int .u8 0),.base (.int .u8 0),.base (.bool false),.base (.int .u64 0),.base (.int .u64 0)]:=by unfold TyOK;kernel_rfl
theorem ty74:TyOK Tryz.prog 74 (.st [(0,3,42),(3,3,42),(6,1,3),(7,1,3),(8,1,24)]) 9 88 [.base (.bool false),.base (.int .u64 0),.base (.int .u64 0),.base (.bool false),.base (.int .u64 0),.base (.int .u64 0),.base (.int .i64 0),.base (.int .i64 0),.nils]:=by unfold TyOK;kernel_rfl
theorem ty78:TyOK Tryz.prog 78 (.st [(0,1,3),(1,1,3),(2,3,42),(5,1,4),(6,6,23)]) 12 48 [.base (.int .i64 0),.base (.int .i64 0),.base (.bool false),.base (.int .u64 0),.base (.int .u64 0),.base (.bool false),.base (.int .u8 0),.base (.int .u8 0),.base (.int .u8 0),.base (.int .u8 0),.base (.int .u8 0),.base (.int .u8 0)]:=by unfold TyOK;kernel_rfl
theorem ty85:TyOK Tryz.prog 85 (.st [(0,3,42),(3,6,23),(9,1,3)]) 10 40 [.base (.bool false),.base (.int .u64 0),.base (.int .u64 0),.base (.int .u8 0),.base (.int .u8 0),.base (.int .u8 0),.base (.int .u8 0),.base (.int .u8 0),.base (.int .u8 0),.base (.int .i64 0)]:=by unfold TyOK;kernel_rfl
theorem ty91:TyOK Tryz.prog 91 (.st [(0,1,27),(1,1,3)]) 2 32 [.nils,.base (.int .i64 0)]:=by unfold TyOK;kernel_rfl
theorem ty93:TyOK Tryz.prog 93 (.sl 102) 1 24 [.nils]:=by unfold TyOK;kernel_rfl
theorem ty95:TyOK Tryz.prog 95 (.st [(0,1,3),(1,1,9),(2,1,9),(3,1,3),(4,1,3),(5,1,93)]) 6 80 [.base (.int .i64 0),.base (.string ⟨#[]⟩),.base (.string ⟨#[]⟩),.base (.int .i64 0),.base (.int .i64 0),.nils]:=by unfold TyOK;kernel_rfl
theorem ty97:TyOK Tryz.prog 97 (.sl 9) 1 24 [.nils]:=by unfold TyOK;kernel_rfl
theorem ty102:TyOK Tryz.prog 102 (.st [(0,1,3),(1,1,3),(2,1,3),(3,1,32),(4,3,42),(7,3,42)]) 10 96 [.base (.int .i64 0),.base (.int .i64 0),.base (.int .i64 0),.nils,.base (.bool false),.base (.int .u64 0),.base (.int .u64 0),.base (.bool false),.base (.int .u64 0),.base (.int .u64 0)]:=by unfold TyOK;kernel_rfl
theorem ty114:TyOK Tryz.prog 114 (.int .u64) 1 8 [.base (.int .u64 0)]:=by unfold TyOK;kernel_rfl
theorem ty127:TyOK Tryz.prog 127 (.int .u16) 1 2 [.base (.int .u16 0)]:=by unfold TyOK;kernel_rfl
theorem ty147:TyOK Tryz.prog 147 (.map 3 4) 1 8 [.base (.map none)]:=by unfold TyOK;kernel_rfl
theorem ty148:TyOK Tryz.prog 148 (.map 9 4) 1 8 [.base (.map none)]:=by unfold TyOK;kernel_rfl
theorem ty149:TyOK Tryz.prog 149 (.map 23 4) 1 8 [.base (.map none)]:=by unfold TyOK;kernel_rfl
theorem ty150:TyOK Tryz.prog 150 (.map 42 4) 1 8 [.base (.map none)]:=by unfold TyOK;kernel_rfl
theorem ty154:TyOK Tryz.prog 154 (.sl 24) 1 24 [.nils]:=by unfold TyOK;kernel_rfl
theorem fok4:FnOK Tryz.prog 4:=⟨Tryz.f4,Tryz.func4,by kernel_rfl,by kernel_rfl⟩
theorem fok5:FnOK Tryz.prog 5:=⟨Tryz.f5,Tryz.func5,by kernel_rfl,by kernel_rfl⟩
theorem fok6:FnOK Tryz.prog 6:=⟨Tryz.f6,Tryz.func6,by kernel_rfl,by kernel_rfl⟩
theorem fok7:FnOK Tryz.prog 7:=⟨Tryz.f7,Tryz.func7,by kernel_rfl,by kernel_rfl⟩
theorem fok8:FnOK Tryz.prog 8:=⟨Tryz.f8,Tryz.func8,by kernel_rfl,by kernel_rfl⟩
theorem fok9:FnOK Tryz.prog 9:=⟨Tryz.f9,Tryz.func9,by kernel_rfl,by kernel_rfl⟩
theorem fok10:FnOK Tryz.prog 10:=⟨Tryz.f10,Tryz.func10,by kernel_rfl,by kernel_rfl⟩
theorem fok11:FnOK Tryz.prog 11:=⟨Tryz.f11,Tryz.func11,by kernel_rfl,by kernel_rfl⟩
theorem fok12:FnOK Tryz.prog 12:=⟨Tryz.f12,Tryz.func12,by kernel_rfl,by kernel_rfl⟩
theorem fok13:FnOK Tryz.prog 13:=⟨Tryz.f13,Tryz.func13,by kernel_rfl,by kernel_rfl⟩
theorem fok14:FnOK Tryz.prog 14:=⟨Tryz.f14,Tryz.func14,by kernel_rfl,by kernel_rfl⟩
theorem fok15:FnOK Tryz.prog 15:=⟨Tryz.f15,Tryz.func15,by kernel_rfl,by kernel_rfl⟩
theorem fok16:FnOK Tryz.prog 16:=⟨Tryz.f16,Tryz.func16,by kernel_rfl,by kernel_rfl⟩
theorem fok17:FnOK Tryz.prog 17:=⟨Tryz.f17,Tryz.func17,by kernel_rfl,by kernel_rfl⟩
theorem fok18:FnOK Tryz.prog 18:=⟨Tryz.f18,Tryz.func18,by kernel_rfl,by kernel_rfl⟩
theorem fok19:FnOK Tryz.prog 19:=⟨Tryz.f19,Tryz.func19,by kernel_rfl,by kernel_rfl⟩
theorem fok20:FnOK Tryz.prog 20:=⟨Tryz.f20,Tryz.func20,by kernel_rfl,by kernel_rfl⟩
theorem fok21:FnOK Tryz.prog 21:=⟨Tryz.f21,Tryz.func21,by kernel_rfl,by kernel_rfl⟩
theorem fok22:FnOK Tryz.prog 22:=⟨Tryz.f22,Tryz.func22,by kernel_rfl,by kernel_rfl⟩
theorem fok23:FnOK Tryz.prog 23:=⟨Tryz.f23,Tryz.func23,by kernel_rfl,by kernel_rfl⟩
theorem fok24:FnOK Tryz.prog 24:=⟨Tryz.f24,Tryz.func24,by kernel_rfl,by kernel_rfl⟩
theorem fok25:FnOK Tryz.prog 25:=⟨Tryz.f25,Tryz.func25,by kernel_rfl,by kernel_rfl⟩
theorem fok26:FnOK Tryz.prog 26:=⟨Tryz.f26,Tryz.func26,by kernel_rfl,by kernel_rfl⟩
theorem fok27:FnOK Tryz.prog 27:=⟨Tryz.f27,Tryz.func27,by kernel_rfl,by kernel_rfl⟩
theorem fok28:FnOK Tryz.prog 28:=⟨Tryz.f28,Tryz.func28,by kernel_rfl,by kernel_rfl⟩
theorem fok29:FnOK Tryz.prog 29:=⟨Tryz.f29,Tryz.func29,by kernel_rfl,by kernel_rfl⟩
theorem fok30:FnOK Tryz.prog 30:=⟨Tryz.f30,Tryz.func30,by kernel_rfl,by kernel_rfl⟩
theorem fok31:FnOK Tryz.prog 31:=⟨Tryz.f31,Tryz.func31,by kernel_rfl,by kernel_rfl⟩
theorem fok32:FnOK Tryz.prog 32:=⟨Tryz.f32,Tryz.func32,by kernel_rfl,by kernel_rfl⟩
theorem fok33:FnOK Tryz.prog 33:=⟨Tryz.f33,Tryz.func33,by kernel_rfl,by kernel_rfl⟩
theorem fok34:FnOK Tryz.prog 34:=⟨Tryz.f34,Tryz.func34,by kernel_rfl,by kernel_rfl⟩
theorem fok35:FnOK Tryz.prog 35:=⟨Tryz.f35,Tryz.func35,by kernel_rfl,by kernel_rfl⟩
theorem fok36:FnOK Tryz.prog 36:=⟨Tryz.f36,Tryz.func36,by kernel_rfl,by kernel_rfl⟩
theorem fok37:FnOK Tryz.prog 37:=⟨Tryz.f37,Tryz.func37,by kernel_rfl,by kernel_rfl⟩
theorem fok38:FnOK Tryz.prog 38:=⟨Tryz.f38,Tryz.func38,by kernel_rfl,by kernel_rfl⟩
theorem fok39:FnOK Tryz.prog 39:=⟨Tryz.f39,Tryz.func39,by kernel_rfl,by kernel_rfl⟩
theorem fok40:FnOK Tryz.prog 40:=⟨Tryz.f40,Tryz.func40,by kernel_rfl,by kernel_rfl⟩
theorem fok41:FnOK Tryz.prog 41:=⟨Tryz.f41,Tryz.func41,by kernel_rfl,by kernel_rfl⟩
theorem fok42:FnOK Tryz.prog 42:=⟨Tryz.f42,Tryz.func42,by kernel_rfl,by kernel_rfl⟩
theorem fok43:FnOK Tryz.prog 43:=⟨Tryz.f43,Tryz.func43,by kernel_rfl,by kernel_rfl⟩
theorem fok44:FnOK Tryz.prog 44:=⟨Tryz.f44,Tryz.func44,by kernel_rfl,by kernel_rfl⟩
theorem fok45:FnOK Tryz.prog 45:=⟨Tryz.f45,Tryz.func45,by kernel_rfl,by kernel_rfl⟩
theorem fok46:FnOK Tryz.prog 46:=⟨Tryz.f46,Tryz.func46,by kernel_rfl,by kernel_rfl⟩
theorem fok47:FnOK Tryz.prog 47:=⟨Tryz.f47,Tryz.func47,by kernel_rfl,by kernel_rfl⟩
theorem fok48:FnOK Tryz.prog 48:=⟨Tryz.f48,Tryz.func48,by kernel_rfl,by kernel_rfl⟩
theorem fok49:FnOK Tryz.prog 49:=⟨Tryz.f49,Tryz.func49,by kernel_rfl,by kernel_rfl⟩
theorem fok50:FnOK Tryz.prog 50:=⟨Tryz.f50,Tryz.func50,by kernel_rfl,by kernel_rfl⟩
theorem fok51:FnOK Tryz.prog 51:=⟨Tryz.f51,Tryz.func51,by kernel_rfl,by kernel_rfl⟩
theorem fok52:FnOK Tryz.prog 52:=⟨Tryz.f52,Tryz.func52,by kernel_rfl,by kernel_rfl⟩
theorem fok53:FnOK Tryz.prog 53:=⟨Tryz.f53,Tryz.func53,by kernel_rfl,by kernel_rfl⟩
theorem fok54:FnOK Tryz.prog 54:=⟨Tryz.f54,Tryz.func54,by kernel_rfl,by kernel_rfl⟩
theorem fok55:FnOK Tryz.prog 55:=⟨Tryz.f55,Tryz.func55,by kernel_rfl,by kernel_rfl⟩
theorem fok56:FnOK Tryz.prog 56:=⟨Tryz.f56,Tryz.func56,by kernel_rfl,by kernel_rfl⟩
theorem fok57:FnOK Tryz.prog 57:=⟨Tryz.f57,Tryz.func57,by kernel_rfl,by kernel_rfl⟩
theorem fok58:FnOK Tryz.prog 58:=⟨Tryz.f58,Tryz.func58,by kernel_rfl,by kernel_rfl⟩
theorem fok59:FnOK Tryz.prog 59:=⟨Tryz.f59,Tryz.func59,by kernel_rfl,by kernel_rfl⟩
theorem fok60:FnOK Tryz.prog 60:=⟨Tryz.f60,Tryz.func60,by kernel_rfl,by kernel_rfl⟩
theorem fok61:FnOK Tryz.prog 61:=⟨Tryz.f61,Tryz.func61,by kernel_rfl,by kernel_rfl⟩
theorem fok62:FnOK Tryz.prog 62:=⟨Tryz.f62,Tryz.func62,by kernel_rfl,by kernel_rfl⟩
theorem fok63:FnOK Tryz.prog 63:=⟨Tryz.f63,Tryz.func63,by kernel_rfl,by kernel_rfl⟩
theorem fok64:FnOK Tryz.prog 64:=⟨Tryz.f64,Tryz.func64,by kernel_rfl,by kernel_rfl⟩
theorem fok65:FnOK Tryz.prog 65:=⟨Tryz.f65,Tryz.func65,by kernel_rfl,by kernel_rfl⟩
theorem fok66:FnOK Tryz.prog 66:=⟨Tryz.f66,Tryz.func66,by kernel_rfl,by kernel_rfl⟩
theorem fok67:FnOK Tryz.prog 67:=⟨Tryz.f67,Tryz.func67,by kernel_rfl,by kernel_rfl⟩
theorem fok68:FnOK Tryz.prog 68:=⟨Tryz.f68,Tryz.func68,by kernel_rfl,by kernel_rfl⟩
theorem fok69:FnOK Tryz.prog 69:=⟨Tryz.f69,Tryz.func69,by kernel_rfl,by kernel_rfl⟩
theorem fok70:FnOK Tryz.prog 70:=⟨Tryz.f70,Tryz.func70,by kernel_rfl,by kernel_rfl⟩
theorem fok71:FnOK Tryz.prog 71:=⟨Tryz.f71,Tryz.func71,by kernel_rfl,by kernel_rfl⟩
theorem fok72:FnOK Tryz.prog 72:=⟨Tryz.f72,Tryz.func72,by kernel_rfl,by kernel_rfl⟩
theorem fok73:FnOK Tryz.prog 73:=⟨Tryz.f73,Tryz.func73,by kernel_rfl,by kernel_rfl⟩
theorem fok74:FnOK Tryz.prog 74:=⟨Tryz.f74,Tryz.func74,by kernel_rfl,by kernel_rfl⟩
theorem fok75:FnOK Tryz.prog 75:=⟨Tryz.f75,Tryz.func75,by kernel_rfl,by kernel_rfl⟩
theorem fok76:FnOK Tryz.prog 76:=⟨Tryz.f76,Tryz.func76,by kernel_rfl,by kernel_rfl⟩
theorem fok77:FnOK Tryz.prog 77:=⟨Tryz.f77,Tryz.func77,by kernel_rfl,by kernel_rfl⟩
theorem fok78:FnOK Tryz.prog 78:=⟨Tryz.f78,Tryz.func78,by kernel_rfl,by kernel_rfl⟩
theorem fok79:FnOK Tryz.prog 79:=⟨Tryz.f79,Tryz.func79,by kernel_rfl,by kernel_rfl⟩
theorem fok80:FnOK Tryz.prog 80:=⟨Tryz.f80,Tryz.func80,by kernel_rfl,by kernel_rfl⟩
theorem fok81:FnOK Tryz.prog 81:=⟨Tryz.f81,Tryz.func81,by kernel_rfl,by kernel_rfl⟩
theorem fok82:FnOK Tryz.prog 82:=⟨Tryz.f82,Tryz.func82,by kernel_rfl,by kernel_rfl⟩
theorem fok83:FnOK Tryz.prog 83:=⟨Tryz.f83,Tryz.func83,by kernel_rfl,by kernel_rfl⟩
theorem fok84:FnOK Tryz.prog 84:=⟨Tryz.f84,Tryz.func84,by kernel_rfl,by kernel_rfl⟩
theorem fok85:FnOK Tryz.prog 85:=⟨Tryz.f85,Tryz.func85,by kernel_rfl,by kernel_rfl⟩
theorem fok86:FnOK Tryz.prog 86:=⟨Tryz.f86,Tryz.func86,by kernel_rfl,by kernel_rfl⟩
theorem fok87:FnOK Tryz.prog 87:=⟨Tryz.f87,Tryz.func87,by kernel_rfl,by kernel_rfl⟩
theorem fok88:FnOK Tryz.prog 88:=⟨Tryz.f88,Tryz.func88,by kernel_rfl,by kernel_rfl⟩
theorem fok89:FnOK Tryz.prog 89:=⟨Tryz.f89,Tryz.func89,by kernel_rfl,by kernel_rfl⟩
theorem fok90:FnOK Tryz.prog 90:=⟨Tryz.f90,Tryz.func90,by kernel_rfl,by kernel_rfl⟩
theorem fok91:FnOK Tryz.prog 91:=⟨Tryz.f91,Tryz.func91,by kernel_rfl,by kernel_rfl⟩
theorem fok92:FnOK Tryz.prog 92:=⟨Tryz.f92,Tryz.func92,by kernel_rfl,by kernel_rfl⟩
theorem fok93:FnOK Tryz.prog 93:=⟨Tryz.f93,Tryz.func93,by kernel_rfl,by kernel_rfl⟩
theorem fok94:FnOK Tryz.prog 94:=⟨Tryz.f94,Tryz.func94,by kernel_rfl,by kernel_rfl⟩
theorem fok95:FnOK Tryz.prog 95:=⟨Tryz.f95,Tryz.func95,by kernel_rfl,by kernel_rfl⟩
theorem fok96:FnOK Tryz.prog 96:=⟨Tryz.f96,Tryz.func96,by kernel_rfl,by kernel_rfl⟩
theorem fok97:FnOK Tryz.prog 97:=⟨Tryz.f97,Tryz.func97,by kernel_rfl,by kernel_rfl⟩
theorem fok98:FnOK Tryz.prog 98:=⟨Tryz.f98,Tryz.func98,by kernel_rfl,by kernel_rfl⟩
theorem fok99:FnOK Tryz.prog 99:=⟨Tryz.f99,Tryz.func99,by kernel_rfl,by kernel_rfl⟩
theorem fok100:FnOK Tryz.prog 100:=⟨Tryz.f100,Tryz.func100,by kernel_rfl,by kernel_rfl⟩
theorem fok101:FnOK Tryz.prog 101:=⟨Tryz.f101,Tryz.func101,by kernel_rfl,by kernel_rfl⟩
theorem fok102:FnOK Tryz.prog 102:=⟨Tryz.f102,Tryz.func102,by kernel_rfl,by kernel_rfl⟩
theorem fok103:FnOK Tryz.prog 103:=⟨Tryz.f103,Tryz.func103,by kernel_rfl,by kernel_rfl⟩
theorem fok104:FnOK Tryz.prog 104:=⟨Tryz.f104,Tryz.func104,by kernel_rfl,by kernel_rfl⟩
theorem fok105:FnOK Tryz.prog 105:=⟨Tryz.f105,Tryz.func105,by kernel_rfl,by kernel_rfl⟩
theorem fok107:FnOK Tryz.prog 107:=⟨Tryz.f107,Tryz.func107,by kernel_rfl,by kernel_rfl⟩
theorem mixed:Tryz.prog.follows .mixedOrders=true:=by kernel_rfl
end Go.Proofs.YtcidmiacfjdepaaGreatDoor
namespace Go.Proofs.YtcidmiacfjdepaaGreatDoor
open Go.RowKit
theorem tmod_pos (v n:Int) (hn:1≤n):-n < v.tmod n∧v.tmod n < n∧v % n=if v.tmod n < 0 then v.tmod n + n else v.tmod n:=by
  have h0:=Int.emod_nonneg v (show n≠0 by omega)
  have h1:=Int.emod_lt_of_pos v (show 0 < n by omega)
  rw [Int.tmod_eq_emod]
  have h3:(n.natAbs:Int)=n:=by omega
  split
  · refine ⟨by omega,by omega,?_⟩
    rw [if_neg (by omega)];omega
  · rename_i h
    have h2:v % n≠0:=fun e=>h (.inr (Int.dvd_of_emod_eq_zero e))
    refine ⟨by omega,by omega,?_⟩
    rw [if_pos (by omega)];omega
theorem mod_any (v n:Int) (hn:1≤n) (hn2:n≤9223372036854775807):AFn Tryz.prog 22 0 [.base (.int .i64 v),.base (.int .i64 n)] mt (.base (.int .i64 (v % n))) mt:=by
  refine AFn.eq Tryz.func22 rfl rfl (Nat.le_of_ble_eq_true rfl) ?_
  obtain ⟨h1,h2,h3⟩:=tmod_pos v n hn
  refine Wq (qW 0 1 rfl rfl rfl (qA rfl rfl (Nl (Wq (qW 5 9 rfl rfl rfl (qM rfl rfl (qM rfl rfl (Od rfl rfl (LO.rem rfl rfl rfl (by first|omega|decide|assumption|(simp;done)|(simp;omega))) (qA rfl rfl (Nl (Wq (Wq (qW 13 15 rfl rfl rfl (qM rfl rfl (qK rfl rfl rfl (Nl (W.cond rfl (fun hb=>?_) (fun hb=>?_))))))))))))))))))
  · have hb:v.tmod n < 0:=of_decide_eq_true hb
    refine qW 19 23 rfl rfl rfl (qM rfl rfl (qM rfl rfl (qZ rfl rfl rfl (by (first|exact IntWalk.i64_in _ (by omega)|assumption)) (qA rfl rfl (Nl (Wq (qW 27 29 rfl rfl rfl (qM rfl rfl (qA rfl rfl (Nl (Wz ⟨.inl rfl,_,mt,Rc (Rt rfl) (Rn),all_mt,?_⟩)))))))))))
    exact ⟨by rw [h3,if_pos hb];rfl,rfl⟩
  · have hb:¬ v.tmod n < 0:=of_decide_eq_false hb
    refine Wk (Wq (qW 27 29 rfl rfl rfl (qM rfl rfl (qA rfl rfl (Nl (Wz ⟨.inl rfl,_,mt,Rc (Rt rfl) (Rn),all_mt,?_⟩))))))
    exact ⟨by rw [h3,if_neg hb];rfl,rfl⟩
def deckC (l:List Int) (at_:Nat):List AV:=[.isl (l.map fun z=>.base (.int .i64 z)) l.length,.base (.int .i64 (at_:Int))]
/-- the next number of a list -/
def nextV (l:List Int) (at_:Nat) (n:Int):Int:=if h:at_ < l.length then l[at_] % n else 0
def nextAt (l:List Int) (at_:Nat):Nat:=if at_ < l.length then at_ + 1 else at_
theorem next_any (l:List Int) (at_:Nat) (n:Int) (hn:1≤n) (hn2:n≤9223372036854775807) (hl:l.length≤9223372036854775807) :
    AFn Tryz.prog 20 1 [.own 0 0,.base (.int .i64 n)] (up mt 0 (some (deckC l at_))) (.base (.int .i64 (nextV l at_ n))) (up mt 0 (some (deckC l (nextAt l at_)))):=by
  refine AFn.eq Tryz.func20 rfl rfl (Nat.le_of_ble_eq_true rfl) ?_
  unfold deckC
  refine Wq (qW 1 2 rfl rfl rfl (qA rfl rfl (Nl (Wq (Wq (Wd 6 16 (by decide) rfl mixed rfl (qM rfl rfl (Od rfl rfl (Nc rfl rfl) (qF rfl rfl ty91 rfl rfl (qL rfl rfl rfl rfl ty3 rfl (qM rfl rfl (Od rfl rfl (Nc rfl rfl) (qF rfl rfl ty91 rfl rfl (qL rfl rfl rfl rfl ty27 rfl (qH rfl rfl rfl ty27 (Od rfl rfl (Ge0 rfl rfl rfl) (Nl ⟨by kernel_rfl,(W.cond rfl (fun hb=>?_) (fun hb=>?_))⟩)))))))))))))))))
  · have hb:¬ at_ < l.length:=by have:=of_decide_eq_true hb;omega
    refine Wq (qW 20 21 rfl rfl rfl (qA rfl rfl (Nl (Wz ⟨.inl rfl,_,up mt 0 (some (deckC l at_)),Rc (Rt rfl) Rn,all_up rfl all_mt,?_⟩))))
    exact ⟨by unfold nextV;rw [dif_neg hb];rfl,by unfold nextAt deckC;rw [if_neg hb]⟩
  · have hb:at_ < l.length:=by have:=of_decide_eq_false hb;omega
    refine Wk ?_
    have he:(at_:Int) + 1 - 1=(at_:Int):=by omega
    refine Wq (qW 25 33 rfl rfl rfl (qM rfl rfl (Od rfl rfl (Nc rfl rfl) (qF rfl rfl ty91 rfl rfl (qL rfl rfl rfl rfl ty3 rfl (qZ rfl rfl rfl (by (first|exact IntWalk.i64_in _ (by omega)|assumption)) (Od rfl rfl (Nc rfl rfl) (qF rfl rfl ty91 rfl rfl (qS rfl rfl rfl rfl rfl ty3 rfl rfl (Sl rfl) (Nl ?_))))))))))
    have hg:(l.map fun z=>AV.base (.int .i64 z))[at_ * 1]?=some (.base (.int .i64 l[at_])):=by simp [hb]
    refine Wq (Wd 37 51 (by decide) rfl mixed rfl (qM rfl rfl (Od rfl rfl (Nc rfl rfl) (qF rfl rfl ty91 rfl rfl (qL rfl rfl rfl rfl ty27 rfl (qM rfl rfl (Od rfl rfl (Nc rfl rfl) (qF rfl rfl ty91 rfl rfl (qL rfl rfl rfl rfl ty3 rfl (Od rfl rfl (LO.sub_in rfl rfl rfl (by (first|exact IntWalk.i64_in _ (by omega)|assumption))) (qJ rfl rfl rfl rfl he ty27 ty3 (by first|omega|decide|assumption|(simp;done)|(simp;omega)) (Od rfl rfl (Li rfl rfl hg ty3 rfl) (qM rfl rfl (Od rfl rfl (C0 (fr:=[]) rfl rfl (mod_any _ _ hn hn2) fok22 (.cons rfl (.pure rfl) (.cons rfl (.pure rfl) .nil)) rfl) (qA rfl rfl (Nl ⟨by kernel_rfl,(Wz ⟨.inl rfl,_,up mt 0 (some (deckC l (at_ + 1))),Rc (Rt rfl) Rn,all_up rfl all_mt,?_⟩)⟩))))))))))))))))
    exact ⟨by unfold nextV;rw [dif_pos hb];rfl,by unfold nextAt deckC;rw [if_pos hb]⟩
theorem new_any (l:List Int):AFn Tryz.prog 13 0 [.isl (l.map fun z=>.base (.int .i64 z)) l.length] mt (.own 0 0) (up mt 0 (some (deckC l 0))):=by
  refine AFn.eq Tryz.func13 rfl rfl (Nat.le_of_ble_eq_true rfl) ?_
  unfold deckC
  refine Wq (qW 0 1 rfl rfl rfl (qA rfl rfl (Nl (Wq (qW 5 9 rfl rfl rfl (qM rfl rfl (Od rfl rfl (Bs rfl ty91 (.cons rfl rfl rfl rfl (Sl rfl) .nil)) (qC rfl rfl rfl (qA rfl rfl (Nl (W.rename [(0,7)] 1 (T':=up mt 2 (some (.own 0 0))) (H':=up mt 0 (some (deckC l 0))) (by decide) (all_up (.inr ⟨rfl,fun _ h=>by cases h⟩) all_mt) (all_up ⟨rfl,_,rfl,.inr ⟨rfl,rfl⟩⟩ all_mt) (Wz ⟨.inl rfl,_,up mt 0 (some (deckC l 0)),Rc (Rt rfl) Rn,all_up rfl all_mt,?_⟩))))))))))))
  exact ⟨rfl,rfl⟩
end Go.Proofs.YtcidmiacfjdepaaGreatDoor
namespace Go.Proofs.YtcidmiacfjdepaaGreatDoor
open Go.ChangeShapes Go.WideShapes Go.ChangeAt Go.RowKit
theorem Tryz.own:ownKnob Tryz.prog.godebug=none:=by kernel_rfl
theorem Tryz.laidOut:laidOutB Tryz.prog=true:=by kernel_rfl
theorem trodAll_stays {H:Type} {enc:TypeId × Value→H} {P:Program} (hl:laidOutB P=true) {W W':World} {sp':Nat→Bool} :
    ∀ {ts:List TypeId} {vs:List Value} {ds:List (DataW H)} {ps:List MemPlace},(∀ t∈ts,P.readableRec t=true∧t < P.types.size) →
      DataW.TrodAll enc P W 0 (fun _=>true) true ts vs ds ps→(∀ p∈ps,W.sameAt W' p)→(∀ p∈ps,sp' p.block=true)→DataW.TrodAll enc P W' 0 sp' true ts vs ds ps
  | [],[],[],_,_,h,_,_=>h
  | _::_,_::_,_::_,_,hT,⟨p,q,h1,h2,e⟩,hsame,hs =>
    ⟨p,q,WideElems.Trod_stays hl (hT _ (List.mem_cons.2 (Or.inl rfl))).1 (hT _ (List.mem_cons.2 (Or.inl rfl))).2 h1 (fun x hx=>hsame x (by rw [e];exact List.mem_append_left _ hx)) (fun x hx=>hs x (by rw [e];exact List.mem_append_left _ hx)),
      trodAll_stays hl (fun t ht=>hT t (List.mem_cons.2 (Or.inr ht))) h2 (fun x hx=>hsame x (by rw [e];exact List.mem_append_right _ hx)) (fun x hx=>hs x (by rw [e];exact List.mem_append_right _ hx)),e⟩
theorem law_post {H:Type} {enc:TypeId × Value→H} {P:Program} {f:Func} {s:ChangeSpec} {fresh handsOn again:Bool} {W W':World} {args:Array Value} {ds gs:List (DataW H)} {before:List MemPlace}
    (hl:laidOutB P=true) (hT:∀ t∈f.params.toList,P.readableRec t=true∧t < P.types.size) (tb:TypeId) (hb1:f.resultTypes=#[tb]) (hb2:P.underlying tb=some .bool) (hv:s.vars=[])
    (hW:DataW.Whole enc P f.params.toList s.vars false W args.toList ds gs before)
    (hs:(s.fn H (ds++gs)).results=[.lit (.bool true)]∧(s.fn H (ds++gs)).args=ds∧(s.fn H (ds++gs)).vars=[]) (hb:Below W.heap.size W W') :
    s.post enc P f false fresh handsOn again W args (.bool true) W':=by
  have hlt:∀ p∈before,p.block < W.heap.size:=fun p hp=>hW.lt p hp
  have hW0:=hW
  obtain ⟨p,q,hA,hV,rfl,hz,hn⟩:=hW
  rw [hv] at hV
  obtain ⟨rfl,rfl⟩:=trodVars_none hV
  have hsame:∀ x∈p,W.sameAt W' x:=fun x hx=>hb.same (hlt x (List.mem_append_left _ hx))
  have hres:∀ (b:Nat) (sp:Nat→Bool) (hd:Bool),DataW.TrodAll enc P W' b sp hd f.resultTypes.toList ((Value.bool true).resultList f.resultTypes.size) (s.fn H (ds++[])).results []:=by
    intro b sp hd
    rw [hb1,hs.1]
    exact trodAll_mk1 (shut_bool hb2 true)
  have hargs:∀ sp:Nat→Bool,(∀ x∈p++[],sp x.block=true)→DataW.TrodAll enc P W' 0 sp true f.params.toList args.toList (s.fn H (ds++[])).args p:=by
    intro sp hsp
    rw [hs.2.1]
    exact trodAll_stays hl hT hA hsame (fun x hx=>hsp x (List.mem_append_left _ hx))
  have hold:∀ x∈p++[],(fun b=>decide (b < W.heap.size)) x.block=true:=fun x hx=>by simpa using hlt x hx
  have hvs:∀ sp:Nat→Bool,DataW.TrodVars enc P W' sp s.vars (s.fn H (ds++[])).vars []:=by
    intro sp
    rw [hv,hs.2.2]
    simp [DataW.TrodVars]
  refine ⟨ds,[],p++[],[],p,[],hW0,hres _ _ _,hargs _ hold,hvs _,World.keptBut_mono (fun x hx=>⟨hx,?_⟩) (hb.frame (·∈p++[])),fun _=>?_⟩
  · rw [List.mem_append] at hx
    exact Or.inr hx
  · refine ⟨ok_one hb1 rfl (okWide_bool_mk hb2 true),_,_,([]++p)++[],⟨[]++p,[],trodAll_append (hargs _ (fun _ _=>rfl)) (hres _ _ _),hvs _,rfl,?_,?_⟩,?_⟩
    · intro b off hp
      have hin:MemPlace.cell b off∈p++[]:=by simpa using hp
      rw [hb.frozen (hlt _ hin)]
      exact hz b off hin
    · intro ha;cases ha
    · intro x hx _
      simpa using hx
end Go.Proofs.YtcidmiacfjdepaaGreatDoor
namespace Go.Proofs.YtcidmiacfjdepaaGreatDoor
open Go.ChangeShapes Go.WideShapes Go.ChangeAt Go.RowKit
theorem Tryz.gHead : Tryz.prog.globalNamed "exchangepoint/arp.head" = some 0 := by kernel_rfl
theorem Tryz.tHead:(Tryz.prog.globals[0]?).map (·.type)=some 22:=by kernel_rfl
set_option maxRecDepth 20000 in
theorem open_u8s {H:Type} {enc:TypeId × Value→H} {w:World} {base:Nat} {spare:Nat→Bool} {held:Bool} {fuel:Nat} {t:TypeId} {n:Nat} {cs:List Value} {y:DataW H × List MemPlace}
    (ht:Tryz.prog.underlying t=some (.array n 5)) (hc:Tryz.prog.cellsOf t=n) (h:DataW.trod enc Tryz.prog w base spare held fuel t cs=some y) :
    ∃ ks:List Int,cs=ks.map (Value.int .u8)∧y.1=.agg (ks.map fun k=>.lit (.int .u8 k)):=by
  obtain ⟨xs,m,_,hx,hl,hn,hel⟩:=DataW.trod_array ht h
  have hce:Tryz.prog.cellsOf 5=1:=by kernel_rfl
  rw [hc] at hl
  rw [hce] at hel
  have key:∀ i,i < n→∃ k:Int,cs[i]?=some (.int .u8 k)∧(xs[i]?).map (·.1)=some (.lit (.int .u8 k)):=fun i hi=>by
    have h1:=hel i hi
    rw [Nat.mul_one] at h1
    have h2:xs[i]?=some xs[i]:=List.getElem?_eq_getElem (by omega)
    rw [h2] at h1
    obtain ⟨k,e1,e2,_⟩:=DataW.trod_int Tryz.underlying5 h1
    refine ⟨k,?_,by rw [h2];simp [e2]⟩
    have h3:((cs.drop i).take 1)[0]?=some (.int .u8 k):=by rw [e1];rfl
    simpa using h3
  have hks:∃ ks:List Int,ks.length=n∧∀ i,i < n→∀ k,cs[i]?=some (.int .u8 k)→ks[i]?=some k:=by
    refine ⟨cs.map fun v=>match v with
      | .int _ z=>z
      | _=>0,by simpa using hl,fun i hi k hk=>by simp [hk]⟩
  obtain ⟨ks,hkl,hk⟩:=hks
  refine ⟨ks,?_,?_⟩
  · refine List.ext_getElem? fun i=>?_
    by_cases hi:i < n
    · obtain ⟨k,h1,_⟩:=key i hi
      rw [h1,List.getElem?_map,hk i hi k h1];rfl
    · rw [List.getElem?_eq_none (by omega),List.getElem?_eq_none (by simp;omega)]
  · rw [hx]
    show DataW.agg _=_
    congr 1
    refine List.ext_getElem? fun i=>?_
    by_cases hi:i < n
    · obtain ⟨k,h1,h2⟩:=key i hi
      rw [List.getElem?_map,h2,List.getElem?_map,hk i hi k h1];rfl
    · rw [List.getElem?_eq_none (by simp;omega),List.getElem?_eq_none (by simp;omega)]
theorem lits_inj {H:Type} {a b:List Int} (h:(a.map fun k=>(DataW.lit (.int .u8 k):DataW H))=b.map fun k=>.lit (.int .u8 k)):a=b:=by
  induction a generalizing b with
  | nil=>cases b with
    | nil=>rfl
    | cons y b=>cases h
  | cons x a ih =>
    cases b with
    | nil=>cases h
    | cons y b =>
      simp only [List.map_cons,List.cons.injEq,DataW.lit.injEq,Lit.int.injEq,true_and] at h
      rw [h.1,ih h.2]
/-- what the listed variable's condition gives -/
theorem glob_of_laid {W : World} (h : laidMetH Tryz.prog [("exchangepoint/arp.head", Rows.laid_exchangepoint_arp_head)] W) : Glob (fun _ => False) W := by
  rw [MakeChecks.laidMetH_plain _ _ _ (by kernel_rfl)] at h
  obtain ⟨ps,⟨g1,t1,cs1,f1,p1,q1,hg1,ht1,hv1,hd1,_,_⟩,_,_⟩:=h
  obtain rfl:=Option.some.inj (Tryz.gHead.symm.trans hg1)
  obtain rfl:=Option.some.inj (Tryz.tHead.symm.trans ht1)
  obtain ⟨ks,e1,e2⟩:=open_u8s Tryz.underlying22 (by kernel_rfl) hd1
  rw [show (Rows.laid_exchangepoint_arp_head:DataW Unit)=.agg (([0,1,8,0,6,4]:List Int).map fun k=>.lit (.int .u8 k)) from rfl] at e2
  have e3:=lits_inj (DataW.agg.inj e2)
  subst e3
  obtain ⟨l⟩:=cs1
  simp only at e1
  subst e1
  have hc:∀ i,W.cell? ⟨0,i,none⟩=_:=fun i=>World.var?_cell Tryz.gHead hv1 i
  have hlt:=World.block_lt_of_cell? W _ ((hc 0).trans (by rfl))
  intro g vs hg
  have hg1:g=0∧vs=([0,1,8,0,6,4]:List Int).map (Value.int .u8):=by
    unfold gRaw at hg
    split at hg
    · injection hg with hg;exact ⟨rfl,hg.symm⟩
    · cases hg
  obtain ⟨rfl,rfl⟩:=hg1
  refine ⟨hlt,fun h=>h,fun i v hv=>?_⟩
  rw [hc i,← hv,List.getElem?_toArray]
section
variable {H:Type} {enc:TypeId × Value→H}
theorem opInt:Opens enc Tryz.prog 3 (fun (z:Int)=>[.base (.int .i64 z)]) (fun z=>(Lit.int .i64 z).wf=true):=.int Tryz.underlying3
theorem opInts:Opens enc Tryz.prog 27 (fun (l:List Int)=>[.isl (l.map fun z=>.base (.int .i64 z)) l.length]) (fun l=>l.length≤9223372036854775807) :=
  (Opens.slice (n:=1) Tryz.underlying27 opInt (by kernel_rfl) (by decide) (fun _ _=>rfl)).map id (fun l _=>by rw [List.map_eq_flatMap];rfl) (fun l h=>by have:=h.1;unfold maxLen at this;simp only [id];omega)
end
end Go.Proofs.YtcidmiacfjdepaaGreatDoor
