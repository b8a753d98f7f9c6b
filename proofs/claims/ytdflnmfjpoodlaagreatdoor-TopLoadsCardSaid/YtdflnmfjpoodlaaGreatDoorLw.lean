/-
  The types of the program. The list of numbers that everything is made from: the next number, a new list. From 'the walk returns true and leaves what lay there as it was' to a statement's row; the arguments that come in, as the abstract machine sees them.
-/
import Derived.Test.YtdflnmfjpoodlaaGreatDoorMab
import Derived.KernelRfl
import Derived.Test.YtdflnmfjpoodlaaGreatDoorRows
import Derived.ProofKit
namespace Go.Proofs.YtdflnmfjpoodlaaGreatDoor
open Go.RowKit
theorem ty2:TyOK Tryz.prog 2 (.int .i64) 1 8 [.base (.int .i64 0)]:=by unfold TyOK;kernel_rfl
theorem ty3:TyOK Tryz.prog 3 (.int .i64) 1 8 [.base (.int .i64 0)]:=by unfold TyOK;kernel_rfl
theorem ty4:TyOK Tryz.prog 4 (.bool) 1 1 [.base (.bool false)]:=by unfold TyOK;kernel_rfl
theorem ty5:TyOK Tryz.prog 5 (.int .u8) 1 1 [.base (.int .u8 0)]:=by unfold TyOK;kernel_rfl
theorem ty6:TyOK Tryz.prog 6 (.int .u8) 1 1 [.base (.int .u8 0)]:=by unfold TyOK;kernel_rfl
theorem ty7:TyOK Tryz.prog 7 (.st [(0,1,2),(1,1,3),(2,1,4),(3,1,6)]) 4 24 [.base (.int .i64 0),.base (.int .i64 0),.base (.bool false),.base (.int .u8 0)]:=by unfold TyOK;kernel_rfl
theorem ty8:TyOK Tryz.prog 8 (.st [(0,1,2),(1,1,3),(2,1,4),(3,1,6)]) 4 24 [.base (.int .i64 0),.base (.int .i64 0),.base (.bool false),.base (.int .u8 0)]:=by unfold TyOK;kernel_rfl
theorem ty9:TyOK Tryz.prog 9 (.str) 1 16 [.base (.string ⟨#[]⟩)]:=by unfold TyOK;kernel_rfl
theorem ty10:TyOK Tryz.prog 10 (.str) 1 16 [.base (.string ⟨#[]⟩)]:=by unfold TyOK;kernel_rfl
theorem ty11:TyOK Tryz.prog 11 (.str) 1 16 [.base (.string ⟨#[]⟩)]:=by unfold TyOK;kernel_rfl
theorem ty12:TyOK Tryz.prog 12 (.int .u64) 1 8 [.base (.int .u64 0)]:=by unfold TyOK;kernel_rfl
theorem ty13:TyOK Tryz.prog 13 (.st [(0,1,9),(1,1,12)]) 2 24 [.base (.string ⟨#[]⟩),.base (.int .u64 0)]:=by unfold TyOK;kernel_rfl
theorem ty14:TyOK Tryz.prog 14 (.st [(0,1,9),(1,1,12)]) 2 24 [.base (.string ⟨#[]⟩),.base (.int .u64 0)]:=by unfold TyOK;kernel_rfl
theorem ty15:TyOK Tryz.prog 15 (.ptr 354) 1 8 [.base (.pointer none)]:=by unfold TyOK;kernel_rfl
theorem ty16:TyOK Tryz.prog 16 (.ptr 357) 1 8 [.base (.pointer none)]:=by unfold TyOK;kernel_rfl
theorem ty17:TyOK Tryz.prog 17 (.ptr 364) 1 8 [.base (.pointer none)]:=by unfold TyOK;kernel_rfl
theorem ty18:TyOK Tryz.prog 18 (.st [(0,1,17)]) 1 8 [.base (.pointer none)]:=by unfold TyOK;kernel_rfl
theorem ty19:TyOK Tryz.prog 19 (.st [(0,1,17)]) 1 8 [.base (.pointer none)]:=by unfold TyOK;kernel_rfl
theorem ty21:TyOK Tryz.prog 21 (.int .i32) 1 4 [.base (.int .i32 0)]:=by unfold TyOK;kernel_rfl
theorem ty22:TyOK Tryz.prog 22 (.sl 3) 1 24 [.nils]:=by unfold TyOK;kernel_rfl
theorem ty23:TyOK Tryz.prog 23 (.ptr 77) 1 8 [.base (.pointer none)]:=by unfold TyOK;kernel_rfl
theorem ty25:TyOK Tryz.prog 25 (.int .u64) 1 8 [.base (.int .u64 0)]:=by unfold TyOK;kernel_rfl
theorem ty26:TyOK Tryz.prog 26 (.st [(0,1,4),(1,1,25),(2,1,25)]) 3 24 [.base (.bool false),.base (.int .u64 0),.base (.int .u64 0)]:=by unfold TyOK;kernel_rfl
theorem ty27:TyOK Tryz.prog 27 (.st [(0,1,4),(1,1,25),(2,1,25)]) 3 24 [.base (.bool false),.base (.int .u64 0),.base (.int .u64 0)]:=by unfold TyOK;kernel_rfl
theorem ty28:TyOK Tryz.prog 28 (.st [(0,3,27),(3,1,3)]) 4 32 [.base (.bool false),.base (.int .u64 0),.base (.int .u64 0),.base (.int .i64 0)]:=by unfold TyOK;kernel_rfl
theorem ty29:TyOK Tryz.prog 29 (.st [(0,3,27),(3,1,3)]) 4 32 [.base (.bool false),.base (.int .u64 0),.base (.int .u64 0),.base (.int .i64 0)]:=by unfold TyOK;kernel_rfl
theorem ty30:TyOK Tryz.prog 30 (.sl 91) 1 24 [.nils]:=by unfold TyOK;kernel_rfl
theorem ty31:TyOK Tryz.prog 31 (.st [(0,4,29),(4,4,29),(8,1,30),(9,1,30)]) 10 112 [.base (.bool false),.base (.int .u64 0),.base (.int .u64 0),.base (.int .i64 0),.base (.bool false),.base (.int .u64 0),.base (.int .u64 0),.base (.int .i64 0),.nils,.nils]:=by unfold TyOK;kernel_rfl
theorem ty32:TyOK Tryz.prog 32 (.st [(0,4,29),(4,4,29),(8,1,30),(9,1,30)]) 10 112 [.base (.bool false),.base (.int .u64 0),.base (.int .u64 0),.base (.int .i64 0),.base (.bool false),.base (.int .u64 0),.base (.int .u64 0),.base (.int .i64 0),.nils,.nils]:=by unfold TyOK;kernel_rfl
theorem ty33:TyOK Tryz.prog 33 (.sl 52) 1 24 [.nils]:=by unfold TyOK;kernel_rfl
theorem ty34:TyOK Tryz.prog 34 (.sl 100) 1 24 [.nils]:=by unfold TyOK;kernel_rfl
theorem ty38:TyOK Tryz.prog 38 (.sl 96) 1 24 [.nils]:=by unfold TyOK;kernel_rfl
theorem ty39:TyOK Tryz.prog 39 (.sl 4) 1 24 [.nils]:=by unfold TyOK;kernel_rfl
theorem ty40:TyOK Tryz.prog 40 (.st [(0,1,3),(1,1,38),(2,1,39),(3,1,39)]) 4 80 [.base (.int .i64 0),.nils,.nils,.nils]:=by unfold TyOK;kernel_rfl
theorem ty41:TyOK Tryz.prog 41 (.st [(0,1,3),(1,1,38),(2,1,39),(3,1,39)]) 4 80 [.base (.int .i64 0),.nils,.nils,.nils]:=by unfold TyOK;kernel_rfl
theorem ty43:TyOK Tryz.prog 43 (.map 3 4) 1 8 [.base (.map none)]:=by unfold TyOK;kernel_rfl
theorem ty49:TyOK Tryz.prog 49 (.sl 55) 1 24 [.nils]:=by unfold TyOK;kernel_rfl
theorem ty50:TyOK Tryz.prog 50 (.sl 27) 1 24 [.nils]:=by unfold TyOK;kernel_rfl
theorem ty51:TyOK Tryz.prog 51 (.st [(0,1,3),(1,1,3),(2,1,3),(3,1,49),(4,1,50),(5,1,50),(6,1,3),(7,1,3)]) 8 112 [.base (.int .i64 0),.base (.int .i64 0),.base (.int .i64 0),.nils,.nils,.nils,.base (.int .i64 0),.base (.int .i64 0)]:=by unfold TyOK;kernel_rfl
theorem ty52:TyOK Tryz.prog 52 (.st [(0,1,3),(1,1,3),(2,1,3),(3,1,49),(4,1,50),(5,1,50),(6,1,3),(7,1,3)]) 8 112 [.base (.int .i64 0),.base (.int .i64 0),.base (.int .i64 0),.nils,.nils,.nils,.base (.int .i64 0),.base (.int .i64 0)]:=by unfold TyOK;kernel_rfl
theorem ty54:TyOK Tryz.prog 54 (.arr 6 5) 6 6 [.base (.int .u8 0),.base (.int .u8 0),.base (.int .u8 0),.base (.int .u8 0),.base (.int .u8 0),.base (.int .u8 0)]:=by unfold TyOK;kernel_rfl
theorem ty55:TyOK Tryz.prog 55 (.arr 6 5) 6 6 [.base (.int .u8 0),.base (.int .u8 0),.base (.int .u8 0),.base (.int .u8 0),.base (.int .u8 0),.base (.int .u8 0)]:=by unfold TyOK;kernel_rfl
theorem ty56:TyOK Tryz.prog 56 (.sl 5) 1 24 [.nils]:=by unfold TyOK;kernel_rfl
theorem ty57:TyOK Tryz.prog 57 (.st [(0,6,55),(6,6,55),(12,1,3),(13,1,3),(14,1,56)]) 15 56 [.base (.int .u8 0),.base (.int .u8 0),.base (.int .u8 0),.base (.int .u8 0),.base (.int .u8 0),.base (.int .u8 0),.base (.int .u8 0),.base (.int .u8 0),.base (.int .u8 0),.base (.int .u8 0),.base (.int .u8 0),.base (.int .u8 0),.base (.int .i64 0),.base (.int .i64 0),.nils]:=by unfold TyOK;kernel_rfl
theorem ty58:TyOK Tryz.prog 58 (.st [(0,6,55),(6,6,55),(12,1,3),(13,1,3),(14,1,56)]) 15 56 [.base (.int .u8 0),.base (.int .u8 0),.base (.int .u8 0),.base (.int .u8 0),.base (.int .u8 0),.base (.int .u8 0),.base (.int .u8 0),.base (.int .u8 0),.base (.int .u8 0),.base (.int .u8 0),.base (.int .u8 0),.base (.int .u8 0),.base (.int .i64 0),.base (.int .i64 0),.nils]:=by unfold TyOK;kernel_rfl
theorem ty60:TyOK Tryz.prog 60 (.st [(0,1,3),(1,1,22),(2,15,58)]) 17 88 [.base (.int .i64 0),.nils,.base (.int .u8 0),.base (.int .u8 0),.base (.int .u8 0),.base (.int .u8 0),.base (.int .u8 0),.base (.int .u8 0),.base (.int .u8 0),.base (.int .u8 0),.base (.int .u8 0),.base (.int .u8 0),.base (.int .u8 0),.base (.int .u8 0),.base (.int .i64 0),.base (.int .i64 0),.nils]:=by unfold TyOK;kernel_rfl
theorem ty61:TyOK Tryz.prog 61 (.st [(0,1,3),(1,1,22),(2,15,58)]) 17 88 [.base (.int .i64 0),.nils,.base (.int .u8 0),.base (.int .u8 0),.base (.int .u8 0),.base (.int .u8 0),.base (.int .u8 0),.base (.int .u8 0),.base (.int .u8 0),.base (.int .u8 0),.base (.int .u8 0),.base (.int .u8 0),.base (.int .u8 0),.base (.int .u8 0),.base (.int .i64 0),.base (.int .i64 0),.nils]:=by unfold TyOK;kernel_rfl
theorem ty62:TyOK Tryz.prog 62 (.st [(0,1,3),(1,1,3),(2,1,3)]) 3 24 [.base (.int .i64 0),.base (.int .i64 0),.base (.int .i64 0)]:=by unfold TyOK;kernel_rfl
theorem ty63:TyOK Tryz.prog 63 (.st [(0,1,3),(1,1,3),(2,1,3)]) 3 24 [.base (.int .i64 0),.base (.int .i64 0),.base (.int .i64 0)]:=by unfold TyOK;kernel_rfl
theorem ty69:TyOK Tryz.prog 69 (.sl 22) 1 24 [.nils]:=by unfold TyOK;kernel_rfl
theorem ty76:TyOK Tryz.prog 76 (.st [(0,1,22),(1,1,3)]) 2 32 [.nils,.base (.int .i64 0)]:=by unfold TyOK;kernel_rfl
theorem ty77:TyOK Tryz.prog 77 (.st [(0,1,22),(1,1,3)]) 2 32 [.nils,.base (.int .i64 0)]:=by unfold TyOK;kernel_rfl
theorem ty78:TyOK Tryz.prog 78 (.int .i64) 1 8 [.base (.int .i64 0)]:=by unfold TyOK;kernel_rfl
theorem ty86:TyOK Tryz.prog 86 (.sl 137) 1 24 [.nils]:=by unfold TyOK;kernel_rfl
theorem ty90:TyOK Tryz.prog 90 (.st [(0,1,3),(1,1,9),(2,1,9),(3,1,3),(4,1,3),(5,1,86)]) 6 80 [.base (.int .i64 0),.base (.string ⟨#[]⟩),.base (.string ⟨#[]⟩),.base (.int .i64 0),.base (.int .i64 0),.nils]:=by unfold TyOK;kernel_rfl
theorem ty91:TyOK Tryz.prog 91 (.st [(0,1,3),(1,1,9),(2,1,9),(3,1,3),(4,1,3),(5,1,86)]) 6 80 [.base (.int .i64 0),.base (.string ⟨#[]⟩),.base (.string ⟨#[]⟩),.base (.int .i64 0),.base (.int .i64 0),.nils]:=by unfold TyOK;kernel_rfl
theorem ty93:TyOK Tryz.prog 93 (.sl 9) 1 24 [.nils]:=by unfold TyOK;kernel_rfl
theorem ty94:TyOK Tryz.prog 94 (.ptr 3) 1 8 [.base (.pointer none)]:=by unfold TyOK;kernel_rfl
theorem ty95:TyOK Tryz.prog 95 (.st [(0,1,3),(1,1,3),(2,1,3)]) 3 24 [.base (.int .i64 0),.base (.int .i64 0),.base (.int .i64 0)]:=by unfold TyOK;kernel_rfl
theorem ty96:TyOK Tryz.prog 96 (.st [(0,1,3),(1,1,3),(2,1,3)]) 3 24 [.base (.int .i64 0),.base (.int .i64 0),.base (.int .i64 0)]:=by unfold TyOK;kernel_rfl
theorem ty99:TyOK Tryz.prog 99 (.st [(0,3,27),(3,6,55),(9,1,3)]) 10 40 [.base (.bool false),.base (.int .u64 0),.base (.int .u64 0),.base (.int .u8 0),.base (.int .u8 0),.base (.int .u8 0),.base (.int .u8 0),.base (.int .u8 0),.base (.int .u8 0),.base (.int .i64 0)]:=by unfold TyOK;kernel_rfl
theorem ty100:TyOK Tryz.prog 100 (.st [(0,3,27),(3,6,55),(9,1,3)]) 10 40 [.base (.bool false),.base (.int .u64 0),.base (.int .u64 0),.base (.int .u8 0),.base (.int .u8 0),.base (.int .u8 0),.base (.int .u8 0),.base (.int .u8 0),.base (.int .u8 0),.base (.int .i64 0)]:=by unfold TyOK;kernel_rfl
theorem ty106:TyOK Tryz.prog 106 (.st [(0,3,27),(3,3,27),(6,1,3),(7,1,3),(8,1,56)]) 9 88 [.base (.bool false),.base (.int .u64 0),.base (.int .u64 0),.base (.bool false),.base (.int .u64 0),.base (.int .u64 0),.base (.int .i64 0),.base (.int .i64 0),.nils]:=by unfold TyOK;kernel_rfl
theorem ty107:TyOK Tryz.prog 107 (.st [(0,3,27),(3,3,27),(6,1,3),(7,1,3),(8,1,56)]) 9 88 [.base (.bool false),.base (.int .u64 0),.base (.int .u64 0),.base (.bool false),.base (.int .u64 0),.base (.int .u64 0),.base (.int .i64 0),.base (.int .i64 0),.nils]:=by unfold TyOK;kernel_rfl
theorem ty109:TyOK Tryz.prog 109 (.ptr 58) 1 8 [.base (.pointer none)]:=by unfold TyOK;kernel_rfl
theorem ty123:TyOK Tryz.prog 123 (.arr 8 3) 8 64 [.base (.int .i64 0),.base (.int .i64 0),.base (.int .i64 0),.base (.int .i64 0),.base (.int .i64 0),.base (.int .i64 0),.base (.int .i64 0),.base (.int .i64 0)]:=by unfold TyOK;kernel_rfl
theorem ty124:TyOK Tryz.prog 124 (.arr 8 123) 64 512 [.base (.int .i64 0),.base (.int .i64 0),.base (.int .i64 0),.base (.int .i64 0),.base (.int .i64 0),.base (.int .i64 0),.base (.int .i64 0),.base (.int .i64 0),.base (.int .i64 0),.base (.int .i64 0),.base (.int .i64 0),.base (.int .i64 0),.base (.int .i64 0),.base (.int .i64 0),.base (.int .i64 0),.base (.int .i64 0),.base (.int .i64 0),.base (.int .i64 0),.base (.int .i64 0),.base (.int .i64 0),.base (.int .i64 0),.base (.int .i64 0),.base (.int .i64 0),.base (.int .i64 0),.base (.int .i64 0),.base (.int .i64 0),.base (.int .i64 0),.base (.int .i64 0),.base (.int .i64 0),.base (.int .i64 0),.base (.int .i64 0),.base (.int .i64 0),.base (.int .i64 0),.base (.int .i64 0),.base (.int .i64 0),.base (.int .i64 0),.base (.int .i64 0),.base (.int .i64 0),.base (.int .i64 0),.base (.int .i64 0),.base (.int .i64 0),.base (.int .i64 0),.base (.int .i64 0),.base (.int .i64 0),.base (.int .i64 0),.base (.int .i64 0),.base (.int .i64 0),.base (.int .i64 0),.base (.int .i64 0),.base (.int .i64 0),.base (.int .i64 0),.base (.int .i64 0),.base (.int .i64 0),.base (.int .i64 0),.base (.int .i64 0),.base (.int .i64 0),.base (.int .i64 0),.base (.int .i64 0),.base (.int .i64 0),.base (.int .i64 0),.base (.int .i64 0),.base (.int .i64 0),.base (.int .i64 0),.base (.int .i64 0)]:=by unfold TyOK;kernel_rfl
theorem ty125:TyOK Tryz.prog 125 (.arr 8 123) 64 512 [.base (.int .i64 0),.base (.int .i64 0),.base (.int .i64 0),.base (.int .i64 0),.base (.int .i64 0),.base (.int .i64 0),.base (.int .i64 0),.base (.int .i64 0),.base (.int .i64 0),.base (.int .i64 0),.base (.int .i64 0),.base (.int .i64 0),.base (.int .i64 0),.base (.int .i64 0),.base (.int .i64 0),.base (.int .i64 0),.base (.int .i64 0),.base (.int .i64 0),.base (.int .i64 0),.base (.int .i64 0),.base (.int .i64 0),.base (.int .i64 0),.base (.int .i64 0),.base (.int .i64 0),.base (.int .i64 0),.base (.int .i64 0),.base (.int .i64 0),.base (.int .i64 0),.base (.int .i64 0),.base (.int .i64 0),.base (.int .i64 0),.base (.int .i64 0),.base (.int .i64 0),.base (.int .i64 0),.base (.int .i64 0),.base (.int .i64 0),.base (.int .i64 0),.base (.int .i64 0),.base (.int .i64 0),.base (.int .i64 0),.base (.int .i64 0),.base (.int .i64 0),.base (.int .i64 0),.base (.int .i64 0),.base (.int .i64 0),.base (.int .i64 0),.base (.int .i64 0),.base (.int .i64 0),.base (.int .i64 0),.base (.int .i64 0),.base (.int .i64 0),.base (.int .i64 0),.base (.int .i64 0),.base (.int .i64 0),.base (.int .i64 0),.base (.int .i64 0),.base (.int .i64 0),.base (.int .i64 0),.base (.int .i64 0),.base (.int .i64 0),.base (.int .i64 0),.base (.int .i64 0),.base (.int .i64 0),.base (.int .i64 0)]:=by unfold TyOK;kernel_rfl
theorem ty128:TyOK Tryz.prog 128 (.ptr 130) 1 8 [.base (.pointer none)]:=by unfold TyOK;kernel_rfl
theorem ty129:TyOK Tryz.prog 129 (.st [(0,1,93),(1,1,4)]) 2 32 [.nils,.base (.bool false)]:=by unfold TyOK;kernel_rfl
theorem ty130:TyOK Tryz.prog 130 (.st [(0,1,93),(1,1,4)]) 2 32 [.nils,.base (.bool false)]:=by unfold TyOK;kernel_rfl
theorem ty132:TyOK Tryz.prog 132 (.ptr 91) 1 8 [.base (.pointer none)]:=by unfold TyOK;kernel_rfl
theorem ty133:TyOK Tryz.prog 133 (.st [(0,10,32),(10,1,132)]) 11 120 [.base (.bool false),.base (.int .u64 0),.base (.int .u64 0),.base (.int .i64 0),.base (.bool false),.base (.int .u64 0),.base (.int .u64 0),.base (.int .i64 0),.nils,.nils,.base (.pointer none)]:=by unfold TyOK;kernel_rfl
theorem ty134:TyOK Tryz.prog 134 (.st [(0,10,32),(10,1,132)]) 11 120 [.base (.bool false),.base (.int .u64 0),.base (.int .u64 0),.base (.int .i64 0),.base (.bool false),.base (.int .u64 0),.base (.int .u64 0),.base (.int .i64 0),.nils,.nils,.base (.pointer none)]:=by unfold TyOK;kernel_rfl
theorem ty136:TyOK Tryz.prog 136 (.st [(0,1,3),(1,1,3),(2,1,3),(3,1,49),(4,3,27),(7,3,27)]) 10 96 [.base (.int .i64 0),.base (.int .i64 0),.base (.int .i64 0),.nils,.base (.bool false),.base (.int .u64 0),.base (.int .u64 0),.base (.bool false),.base (.int .u64 0),.base (.int .u64 0)]:=by unfold TyOK;kernel_rfl
theorem ty137:TyOK Tryz.prog 137 (.st [(0,1,3),(1,1,3),(2,1,3),(3,1,49),(4,3,27),(7,3,27)]) 10 96 [.base (.int .i64 0),.base (.int .i64 0),.base (.int .i64 0),.nils,.base (.bool false),.base (.int .u64 0),.base (.int .u64 0),.base (.bool false),.base (.int .u64 0),.base (.int .u64 0)]:=by unfold TyOK;kernel_rfl
theorem ty147:TyOK Tryz.prog 147 (.arr 2 3) 2 16 [.base (.int .i64 0),.base (.int .i64 0)]:=by unfold TyOK;kernel_rfl
theorem ty148:TyOK Tryz.prog 148 (.arr 2 147) 4 32 [.base (.int .i64 0),.base (.int .i64 0),.base (.int .i64 0),.base (.int .i64 0)]:=by unfold TyOK;kernel_rfl
theorem ty150:TyOK Tryz.prog 150 (.st [(0,1,3),(1,6,55),(7,3,27),(10,6,55),(16,3,27)]) 19 72 [.base (.int .i64 0),.base (.int .u8 0),.base (.int .u8 0),.base (.int .u8 0),.base (.int .u8 0),.base (.int .u8 0),.base (.int .u8 0),.base (.bool false),.base (.int .u64 0),.base (.int .u64 0),.base (.int .u8 0),.base (.int .u8 0),.base (.int .u8 0),.base (.int .u8 0),.base (.int .u8 0),.base (.int .u8 0),.base (.bool false),.base (.int .u64 0),.base (.int .u64 0)]:=by unfold TyOK;kernel_rfl
theorem ty151:TyOK Tryz.prog 151 (.st [(0,1,3),(1,6,55),(7,3,27),(10,6,55),(16,3,27)]) 19 72 [.base (.int .i64 0),.base (.int .u8 0),.base (.int .u8 0),.base (.int .u8 0),.base (.int .u8 0),.base (.int .u8 0),.base (.int .u8 0),.base (.bool false),.base (.int .u64 0),.base (.int .u64 0),.base (.int .u8 0),.base (.int .u8 0),.base (.int .u8 0),.base (.int .u8 0),.base (.int .u8 0),.base (.int .u8 0),.base (.bool false),.base (.int .u64 0),.base (.int .u64 0)]:=by unfold TyOK;kernel_rfl
theorem ty155:TyOK Tryz.prog 155 (.int .u64) 1 8 [.base (.int .u64 0)]:=by unfold TyOK;kernel_rfl
theorem ty157:TyOK Tryz.prog 157 (.int .u16) 1 2 [.base (.int .u16 0)]:=by unfold TyOK;kernel_rfl
theorem ty160:TyOK Tryz.prog 160 (.st [(0,1,3),(1,1,3),(2,3,27),(5,1,4),(6,6,55)]) 12 48 [.base (.int .i64 0),.base (.int .i64 0),.base (.bool false),.base (.int .u64 0),.base (.int .u64 0),.base (.bool false),.base (.int .u8 0),.base (.int .u8 0),.base (.int .u8 0),.base (.int .u8 0),.base (.int .u8 0),.base (.int .u8 0)]:=by unfold TyOK;kernel_rfl
theorem ty161:TyOK Tryz.prog 161 (.st [(0,1,3),(1,1,3),(2,3,27),(5,1,4),(6,6,55)]) 12 48 [.base (.int .i64 0),.base (.int .i64 0),.base (.bool false),.base (.int .u64 0),.base (.int .u64 0),.base (.bool false),.base (.int .u8 0),.base (.int .u8 0),.base (.int .u8 0),.base (.int .u8 0),.base (.int .u8 0),.base (.int .u8 0)]:=by unfold TyOK;kernel_rfl
theorem ty178:TyOK Tryz.prog 178 (.ptr 125) 1 8 [.base (.pointer none)]:=by unfold TyOK;kernel_rfl
theorem ty180:TyOK Tryz.prog 180 (.ptr 182) 1 8 [.base (.pointer none)]:=by unfold TyOK;kernel_rfl
theorem ty181:TyOK Tryz.prog 181 (.st [(0,1,180),(1,1,56)]) 2 32 [.base (.pointer none),.nils]:=by unfold TyOK;kernel_rfl
theorem ty182:TyOK Tryz.prog 182 (.st [(0,1,180),(1,1,56)]) 2 32 [.base (.pointer none),.nils]:=by unfold TyOK;kernel_rfl
theorem ty197:TyOK Tryz.prog 197 (.ptr 134) 1 8 [.base (.pointer none)]:=by unfold TyOK;kernel_rfl
theorem ty199:TyOK Tryz.prog 199 (.ptr 30) 1 8 [.base (.pointer none)]:=by unfold TyOK;kernel_rfl
theorem ty211:TyOK Tryz.prog 211 (.map 9 4) 1 8 [.base (.map none)]:=by unfold TyOK;kernel_rfl
theorem ty212:TyOK Tryz.prog 212 (.map 55 4) 1 8 [.base (.map none)]:=by unfold TyOK;kernel_rfl
theorem ty213:TyOK Tryz.prog 213 (.map 27 4) 1 8 [.base (.map none)]:=by unfold TyOK;kernel_rfl
theorem ty220:TyOK Tryz.prog 220 (.sl 56) 1 24 [.nils]:=by unfold TyOK;kernel_rfl
theorem ty250:TyOK Tryz.prog 250 (.ptr 5) 1 8 [.base (.pointer none)]:=by unfold TyOK;kernel_rfl
theorem ty281:TyOK Tryz.prog 281 (.arr 8 25) 8 64 [.base (.int .u64 0),.base (.int .u64 0),.base (.int .u64 0),.base (.int .u64 0),.base (.int .u64 0),.base (.int .u64 0),.base (.int .u64 0),.base (.int .u64 0)]:=by unfold TyOK;kernel_rfl
theorem ty286:TyOK Tryz.prog 286 (.sl 25) 1 24 [.nils]:=by unfold TyOK;kernel_rfl
theorem ty287:TyOK Tryz.prog 287 (.sl 30) 1 24 [.nils]:=by unfold TyOK;kernel_rfl
theorem ty309:TyOK Tryz.prog 309 (.ptr 305) 1 8 [.base (.pointer none)]:=by unfold TyOK;kernel_rfl
theorem ty311:TyOK Tryz.prog 311 (.arr 24 5) 24 24 [.base (.int .u8 0),.base (.int .u8 0),.base (.int .u8 0),.base (.int .u8 0),.base (.int .u8 0),.base (.int .u8 0),.base (.int .u8 0),.base (.int .u8 0),.base (.int .u8 0),.base (.int .u8 0),.base (.int .u8 0),.base (.int .u8 0),.base (.int .u8 0),.base (.int .u8 0),.base (.int .u8 0),.base (.int .u8 0),.base (.int .u8 0),.base (.int .u8 0),.base (.int .u8 0),.base (.int .u8 0),.base (.int .u8 0),.base (.int .u8 0),.base (.int .u8 0),.base (.int .u8 0)]:=by unfold TyOK;kernel_rfl
theorem ty321:TyOK Tryz.prog 321 (.arr 20 25) 20 160 [.base (.int .u64 0),.base (.int .u64 0),.base (.int .u64 0),.base (.int .u64 0),.base (.int .u64 0),.base (.int .u64 0),.base (.int .u64 0),.base (.int .u64 0),.base (.int .u64 0),.base (.int .u64 0),.base (.int .u64 0),.base (.int .u64 0),.base (.int .u64 0),.base (.int .u64 0),.base (.int .u64 0),.base (.int .u64 0),.base (.int .u64 0),.base (.int .u64 0),.base (.int .u64 0),.base (.int .u64 0)]:=by unfold TyOK;kernel_rfl
theorem ty322:TyOK Tryz.prog 322 (.int .u32) 1 4 [.base (.int .u32 0)]:=by unfold TyOK;kernel_rfl
theorem ty326:TyOK Tryz.prog 326 (.st [(0,1,5),(1,1,5)]) 2 2 [.base (.int .u8 0),.base (.int .u8 0)]:=by unfold TyOK;kernel_rfl
theorem ty327:TyOK Tryz.prog 327 (.st [(0,1,5),(1,1,5)]) 2 2 [.base (.int .u8 0),.base (.int .u8 0)]:=by unfold TyOK;kernel_rfl
theorem ty328:TyOK Tryz.prog 328 (.arr 16 327) 32 32 [.base (.int .u8 0),.base (.int .u8 0),.base (.int .u8 0),.base (.int .u8 0),.base (.int .u8 0),.base (.int .u8 0),.base (.int .u8 0),.base (.int .u8 0),.base (.int .u8 0),.base (.int .u8 0),.base (.int .u8 0),.base (.int .u8 0),.base (.int .u8 0),.base (.int .u8 0),.base (.int .u8 0),.base (.int .u8 0),.base (.int .u8 0),.base (.int .u8 0),.base (.int .u8 0),.base (.int .u8 0),.base (.int .u8 0),.base (.int .u8 0),.base (.int .u8 0),.base (.int .u8 0),.base (.int .u8 0),.base (.int .u8 0),.base (.int .u8 0),.base (.int .u8 0),.base (.int .u8 0),.base (.int .u8 0),.base (.int .u8 0),.base (.int .u8 0)]:=by unfold TyOK;kernel_rfl
theorem ty333:TyOK Tryz.prog 333 (.int .i64) 1 8 [.base (.int .i64 0)]:=by unfold TyOK;kernel_rfl
theorem ty336:TyOK Tryz.prog 336 (.ptr 344) 1 8 [.base (.pointer none)]:=by unfold TyOK;kernel_rfl
theorem ty347:TyOK Tryz.prog 347 (.arr 32 5) 32 32 [.base (.int .u8 0),.base (.int .u8 0),.base (.int .u8 0),.base (.int .u8 0),.base (.int .u8 0),.base (.int .u8 0),.base (.int .u8 0),.base (.int .u8 0),.base (.int .u8 0),.base (.int .u8 0),.base (.int .u8 0),.base (.int .u8 0),.base (.int .u8 0),.base (.int .u8 0),.base (.int .u8 0),.base (.int .u8 0),.base (.int .u8 0),.base (.int .u8 0),.base (.int .u8 0),.base (.int .u8 0),.base (.int .u8 0),.base (.int .u8 0),.base (.int .u8 0),.base (.int .u8 0),.base (.int .u8 0),.base (.int .u8 0),.base (.int .u8 0),.base (.int .u8 0),.base (.int .u8 0),.base (.int .u8 0),.base (.int .u8 0),.base (.int .u8 0)]:=by unfold TyOK;kernel_rfl
theorem ty348:TyOK Tryz.prog 348 (.arr 64 5) 64 64 [.base (.int .u8 0),.base (.int .u8 0),.base (.int .u8 0),.base (.int .u8 0),.base (.int .u8 0),.base (.int .u8 0),.base (.int .u8 0),.base (.int .u8 0),.base (.int .u8 0),.base (.int .u8 0),.base (.int .u8 0),.base (.int .u8 0),.base (.int .u8 0),.base (.int .u8 0),.base (.int .u8 0),.base (.int .u8 0),.base (.int .u8 0),.base (.int .u8 0),.base (.int .u8 0),.base (.int .u8 0),.base (.int .u8 0),.base (.int .u8 0),.base (.int .u8 0),.base (.int .u8 0),.base (.int .u8 0),.base (.int .u8 0),.base (.int .u8 0),.base (.int .u8 0),.base (.int .u8 0),.base (.int .u8 0),.base (.int .u8 0),.base (.int .u8 0),.base (.int .u8 0),.base (.int .u8 0),.base (.int .u8 0),.base (.int .u8 0),.base (.int .u8 0),.base (.int .u8 0),.base (.int .u8 0),.base (.int .u8 0),.base (.int .u8 0),.base (.int .u8 0),.base (.int .u8 0),.base (.int .u8 0),.base (.int .u8 0),.base (.int .u8 0),.base (.int .u8 0),.base (.int .u8 0),.base (.int .u8 0),.base (.int .u8 0),.base (.int .u8 0),.base (.int .u8 0),.base (.int .u8 0),.base (.int .u8 0),.base (.int .u8 0),.base (.int .u8 0),.base (.int .u8 0),.base (.int .u8 0),.base (.int .u8 0),.base (.int .u8 0),.base (.int .u8 0),.base (.int .u8 0),.base (.int .u8 0),.base (.int .u8 0)]:=by unfold TyOK;kernel_rfl
theorem ty350:TyOK Tryz.prog 350 (.ptr 352) 1 8 [.base (.pointer none)]:=by unfold TyOK;kernel_rfl
theorem ty351:TyOK Tryz.prog 351 (.st [(0,1,9)]) 1 16 [.base (.string ⟨#[]⟩)]:=by unfold TyOK;kernel_rfl
theorem ty352:TyOK Tryz.prog 352 (.st [(0,1,9)]) 1 16 [.base (.string ⟨#[]⟩)]:=by unfold TyOK;kernel_rfl
theorem ty353:TyOK Tryz.prog 353 (.st [(0,1,17),(1,1,17),(2,1,17),(3,1,9)]) 4 40 [.base (.pointer none),.base (.pointer none),.base (.pointer none),.base (.string ⟨#[]⟩)]:=by unfold TyOK;kernel_rfl
theorem ty354:TyOK Tryz.prog 354 (.st [(0,1,17),(1,1,17),(2,1,17),(3,1,9)]) 4 40 [.base (.pointer none),.base (.pointer none),.base (.pointer none),.base (.string ⟨#[]⟩)]:=by unfold TyOK;kernel_rfl
theorem ty355:TyOK Tryz.prog 355 (.arr 0 16) 0 0 []:=by unfold TyOK;kernel_rfl
theorem ty356:TyOK Tryz.prog 356 (.st [(0,0,355)]) 0 0 []:=by unfold TyOK;kernel_rfl
theorem ty357:TyOK Tryz.prog 357 (.st [(0,0,355)]) 0 0 []:=by unfold TyOK;kernel_rfl
theorem ty358:TyOK Tryz.prog 358 (.int .u8) 1 1 [.base (.int .u8 0)]:=by unfold TyOK;kernel_rfl
theorem ty359:TyOK Tryz.prog 359 (.int .u8) 1 1 [.base (.int .u8 0)]:=by unfold TyOK;kernel_rfl
theorem ty361:TyOK Tryz.prog 361 (.int .i32) 1 4 [.base (.int .i32 0)]:=by unfold TyOK;kernel_rfl
theorem ty362:TyOK Tryz.prog 362 (.int .i32) 1 4 [.base (.int .i32 0)]:=by unfold TyOK;kernel_rfl
theorem fok5:FnOK Tryz.prog 5:=⟨Tryz.f5,Tryz.func5,by kernel_rfl,by kernel_rfl⟩
theorem fok8:FnOK Tryz.prog 8:=⟨Tryz.f8,Tryz.func8,by kernel_rfl,by kernel_rfl⟩
theorem fok10:FnOK Tryz.prog 10:=⟨Tryz.f10,Tryz.func10,by kernel_rfl,by kernel_rfl⟩
theorem fok11:FnOK Tryz.prog 11:=⟨Tryz.f11,Tryz.func11,by kernel_rfl,by kernel_rfl⟩
theorem fok12:FnOK Tryz.prog 12:=⟨Tryz.f12,Tryz.func12,by kernel_rfl,by kernel_rfl⟩
theorem fok14:FnOK Tryz.prog 14:=⟨Tryz.f14,Tryz.func14,by kernel_rfl,by kernel_rfl⟩
theorem fok19:FnOK Tryz.prog 19:=⟨Tryz.f19,Tryz.func19,by kernel_rfl,by kernel_rfl⟩
theorem fok20:FnOK Tryz.prog 20:=⟨Tryz.f20,Tryz.func20,by kernel_rfl,by kernel_rfl⟩
theorem fok21:FnOK Tryz.prog 21:=⟨Tryz.f21,Tryz.func21,by kernel_rfl,by kernel_rfl⟩
theorem fok22:FnOK Tryz.prog 22:=⟨Tryz.f22,Tryz.func22,by kernel_rfl,by kernel_rfl⟩
theorem fok32:FnOK Tryz.prog 32:=⟨Tryz.f32,Tryz.func32,by kernel_rfl,by kernel_rfl⟩
theorem fok33:FnOK Tryz.prog 33:=⟨Tryz.f33,Tryz.func33,by kernel_rfl,by kernel_rfl⟩
theorem fok34:FnOK Tryz.prog 34:=⟨Tryz.f34,Tryz.func34,by kernel_rfl,by kernel_rfl⟩
theorem fok50:FnOK Tryz.prog 50:=⟨Tryz.f50,Tryz.func50,by kernel_rfl,by kernel_rfl⟩
theorem fok51:FnOK Tryz.prog 51:=⟨Tryz.f51,Tryz.func51,by kernel_rfl,by kernel_rfl⟩
theorem fok52:FnOK Tryz.prog 52:=⟨Tryz.f52,Tryz.func52,by kernel_rfl,by kernel_rfl⟩
theorem fok53:FnOK Tryz.prog 53:=⟨Tryz.f53,Tryz.func53,by kernel_rfl,by kernel_rfl⟩
theorem fok54:FnOK Tryz.prog 54:=⟨Tryz.f54,Tryz.func54,by kernel_rfl,by kernel_rfl⟩
theorem fok69:FnOK Tryz.prog 69:=⟨Tryz.f69,Tryz.func69,by kernel_rfl,by kernel_rfl⟩
theorem fok70:FnOK Tryz.prog 70:=⟨Tryz.f70,Tryz.func70,by kernel_rfl,by kernel_rfl⟩
theorem fok99:FnOK Tryz.prog 99:=⟨Tryz.f99,Tryz.func99,by kernel_rfl,by kernel_rfl⟩
theorem mixed:Tryz.prog.follows .mixedOrders=true:=by kernel_rfl
theorem tmod_pos (v n:Int) (hn:1≤n):-n < v.tmod n∧v.tmod n < n∧v % n=if v.tmod n < 0 then v.tmod n + n else v.tmod n:=by
 have h0:=Int.emod_nonneg v (show n≠0 by omega)
 have h1:=Int.emod_lt_of_pos v (show 0 < n by omega)
 rw [Int.tmod_eq_emod]
 have h3:(n.natAbs:Int)=n:=by omega
 split
 ·refine ⟨by omega,by omega,?_⟩
  rw [if_neg (by omega)];omega
 ·rename_i h
  have h2:v % n≠0:=fun e=>h (.inr (Int.dvd_of_emod_eq_zero e))
  refine ⟨by omega,by omega,?_⟩
  rw [if_pos (by omega)];omega
theorem mod_any (v n:Int) (hn:1≤n) (hn2:n≤9223372036854775807):AFn Tryz.prog 12 0 [.base (.int .i64 v),.base (.int .i64 n)] mt (.base (.int .i64 (v % n))) mt:=by
 refine AFn.eq Tryz.func12 rfl rfl (Nat.le_of_ble_eq_true rfl) ?_
 obtain ⟨h1,h2,h3⟩:=tmod_pos v n hn
 refine Wq<|qW 0 1 rfl<|qA rfl<|Nl<|Wq<|qW 5 9 rfl<|qM rfl<|qM rfl<|Od rfl rfl (LO.rem rfl rfl rfl (by omega))<|qA rfl<|Nl<|Wq<|Wq<|qW 13 15 rfl<|qM rfl<|qK rfl<|Nl<|W.cond rfl (fun hb=>?_) (fun hb=>?_)
 ·have hb:v.tmod n < 0:=of_decide_eq_true hb
  refine qW 19 23 rfl<|qM rfl<|qM rfl<|qZ rfl (iW _ (by omega))<|qA rfl<|Nl<|Wq<|qW 27 29 rfl<|qM rfl<|qA rfl<|Nl<|Wz ⟨.inl rfl,_,mt,Rc (Rt0 rfl) (Rv),aM,?_⟩
  exact ⟨by rw [h3,if_pos hb];rfl,rfl⟩
 ·have hb:¬ v.tmod n < 0:=of_decide_eq_false hb
  refine Wu<|Wq<|qW 27 29 rfl<|qM rfl<|qA rfl<|Nl<|Wz ⟨.inl rfl,_,mt,Rc (Rt0 rfl) (Rv),aM,?_⟩
  exact ⟨by rw [h3,if_neg hb];rfl,rfl⟩
def deckC (l:List Int) (at_:Nat):List AV:=[.isl (l.map fun z=>.base (.int .i64 z)) l.length,.base (.int .i64 (at_:Int))]
def nextV (l:List Int) (at_:Nat) (n:Int):Int:=if h:at_ < l.length then l[at_] % n else 0
def nextAt (l:List Int) (at_:Nat):Nat:=if at_ < l.length then at_ + 1 else at_
theorem next_any (l:List Int) (at_:Nat) (n:Int) (hn:1≤n) (hn2:n≤9223372036854775807) (hl:l.length≤9223372036854775807) :
 AFn Tryz.prog 14 1 [.own 0 0,.base (.int .i64 n)] (up mt 0 (some (deckC l at_))) (.base (.int .i64 (nextV l at_ n))) (up mt 0 (some (deckC l (nextAt l at_)))):=by
 refine AFn.eq Tryz.func14 rfl rfl (Nat.le_of_ble_eq_true rfl) ?_
 unfold deckC
 refine Wq<|qW 1 2 rfl<|qA rfl<|Nl<|Wq<|Wq<|Wd 6 16 (by decide) rfl mixed rfl<|qM rfl<|Od rfl rfl (Nc rfl rfl)<|qF rfl ty77 rfl<|qL rfl ty3 rfl<|qM rfl<|Od rfl rfl (Nc rfl rfl)<|qF rfl ty77 rfl<|qL rfl ty22 rfl<|qH rfl ty22<|qGe rfl<|Nl ⟨by kernel_rfl,(W.cond rfl (fun hb=>?_) (fun hb=>?_))⟩
 ·have hb:¬ at_ < l.length:=by have:=of_decide_eq_true hb;omega
  refine Wq<|qW 20 21 rfl<|qA rfl<|Nl<|Wz ⟨.inl rfl,_,up mt 0 (some (deckC l at_)),Rc (Rt0 rfl) Rv,aU rfl aM,?_⟩
  exact ⟨by unfold nextV;rw [dif_neg hb];rfl,by unfold nextAt deckC;rw [if_neg hb]⟩
 ·have hb:at_ < l.length:=by have:=of_decide_eq_false hb;omega
  refine Wu ?_
  have he:(at_:Int) + 1 - 1=(at_:Int):=by omega
  refine Wq<|qW 25 33 rfl<|qM rfl<|Od rfl rfl (Nc rfl rfl)<|qF rfl ty77 rfl<|qL rfl ty3 rfl<|qZ rfl (iW _ (by omega))<|Od rfl rfl (Nc rfl rfl)<|qF rfl ty77 rfl<|qS rfl ty3 (Sl rfl) rfl<|Nl ?_
  have hg:(l.map fun z=>AV.base (.int .i64 z))[at_ * 1]?=some (.base (.int .i64 l[at_])):=by simp [hb]
  refine Wq<|Wd 37 51 (by decide) rfl mixed rfl<|qM rfl<|Od rfl rfl (Nc rfl rfl)<|qF rfl ty77 rfl<|qL rfl ty22 rfl<|qM rfl<|Od rfl rfl (Nc rfl rfl)<|qF rfl ty77 rfl<|qL rfl ty3 rfl<|Od rfl rfl (LO.sub_in rfl rfl rfl (iW _ (by omega)))<|qJ rfl he ty22 ty3 (by omega)<|Od rfl rfl (Li rfl rfl hg ty3 rfl)<|qM rfl<|qY rfl (mod_any _ _ hn hn2) fok12 rfl<|qA rfl<|Nl ⟨by kernel_rfl,(Wz ⟨.inl rfl,_,up mt 0 (some (deckC l (at_ + 1))),Rc (Rt0 rfl) Rv,aU rfl aM,?_⟩)⟩
  exact ⟨by unfold nextV;rw [dif_pos hb];rfl,by unfold nextAt deckC;rw [if_pos hb]⟩
theorem new_any (l:List Int):AFn Tryz.prog 5 0 [.isl (l.map fun z=>.base (.int .i64 z)) l.length] mt (.own 0 0) (up mt 0 (some (deckC l 0))):=by
 refine AFn.eq Tryz.func5 rfl rfl (Nat.le_of_ble_eq_true rfl) ?_
 unfold deckC
 refine Wq<|qW 0 1 rfl<|qA rfl<|Nl<|Wq<|qW 5 9 rfl<|qM rfl<|Od rfl rfl (Bs rfl ty77 (.cons rfl rfl rfl rfl (Sl rfl) .nil))<|qC rfl<|qA rfl<|Nl<|W.rename [(0,7)] 1 (T':=up mt 2 (some (.own 0 0))) (H':=up mt 0 (some (deckC l 0))) (by decide) (aU (.inr ⟨rfl,fun _ h=>by cases h⟩) aM) (aU ⟨rfl,_,rfl,.inr ⟨rfl,rfl⟩⟩ aM) (Wz ⟨.inl rfl,_,up mt 0 (some (deckC l 0)),Rc (Rt0 rfl) Rv,aU rfl aM,?_⟩)
 exact ⟨rfl,rfl⟩
open Go.ChangeShapes Go.WideShapes Go.ChangeAt Go.RowKit
theorem Tryz.own:ownKnob Tryz.prog.godebug=none:=by kernel_rfl
theorem Tryz.laidOut:laidOutB Tryz.prog=true:=by kernel_rfl
theorem trodAll_stays {H:Type} {enc:TypeId × Value→H} {P:Program} (hl:laidOutB P=true) {W W':World} {sp':Nat→Bool} :
 ∀ {ts:List TypeId} {vs:List Value} {ds:List (DataW H)} {ps:List MemPlace},(∀ t∈ts,P.readableRec t=true∧t < P.types.size) →
  DataW.TrodAll enc P W 0 (fun _=>true) true ts vs ds ps→(∀ p∈ps,W.sameAt W' p)→(∀ p∈ps,sp' p.block=true)→DataW.TrodAll enc P W' 0 sp' true ts vs ds ps
 | [],[],[],_,_,h,_,_=>h
 | _::_,_::_,_::_,_,hT,⟨p,q,h1,h2,e⟩,hsame,hs =>
  ⟨p,q,WideElems.Trod_stays hl (hT _ (List.mem_cons.2 (Or.inl rfl))).1 (hT _ (List.mem_cons.2 (Or.inl rfl))).2 h1 (fun x hx=>hsame x (by rw [e];exact List.mem_append_left _ hx)) (fun x hx=>hs x (by rw [e];exact List.mem_append_left _ hx)),
   trodAll_stays hl (fun t ht=>hT t (List.mem_cons.2 (Or.inr ht))) h2 (fun x hx=>hsame x (by rw [e];exact List.mem_append_right _ hx)) (fun x hx=>hs x (by rw [e];exact List.mem_append_right _ hx)),e⟩
theorem law_post {H:Type} {enc:TypeId × Value→H} {P:Program} {f:Func} {s:ChangeSpec} {fresh handsOn again:Bool} {W W':World} {args:Array Value} {ds gs:List (DataW H)} {before:List MemPlace}
 (hl:laidOutB P=true) (hT:∀ t∈f.params.toList,P.readableRec t=true∧t < P.types.size) (tb:TypeId) (hb1:f.resultTypes=#[tb]) (hb2:P.underlying tb=some .bool) (hv:s.vars=[])
 (hW:DataW.Whole enc P f.params.toList s.vars false W args.toList ds gs before)
 (hs:(s.fn H (ds++gs)).results=[.lit (.bool true)]∧(s.fn H (ds++gs)).args=ds∧(s.fn H (ds++gs)).vars=[]) (hb:Below W.heap.size W W') :
 s.post enc P f false fresh handsOn again W args (.bool true) W':=by
 have hlt:∀ p∈before,p.block < W.heap.size:=fun p hp=>hW.lt p hp
 have hW0:=hW
 obtain ⟨p,q,hA,hV,rfl,hz,hn⟩:=hW
 rw [hv] at hV
 obtain ⟨rfl,rfl⟩:=trodVars_none hV
 have hsame:∀ x∈p,W.sameAt W' x:=fun x hx=>hb.same (hlt x (List.mem_append_left _ hx))
 have hres:∀ (b:Nat) (sp:Nat→Bool) (hd:Bool),DataW.TrodAll enc P W' b sp hd f.resultTypes.toList ((Value.bool true).resultList f.resultTypes.size) (s.fn H (ds++[])).results []:=by
  intro b sp hd
  rw [hb1,hs.1]
  exact trodAll_mk1 (shut_bool hb2 true)
 have hargs:∀ sp:Nat→Bool,(∀ x∈p++[],sp x.block=true)→DataW.TrodAll enc P W' 0 sp true f.params.toList args.toList (s.fn H (ds++[])).args p:=by
  intro sp hsp
  rw [hs.2.1]
  exact trodAll_stays hl hT hA hsame (fun x hx=>hsp x (List.mem_append_left _ hx))
 have hold:∀ x∈p++[],(fun b=>decide (b < W.heap.size)) x.block=true:=fun x hx=>by simpa using hlt x hx
 have hvs:∀ sp:Nat→Bool,DataW.TrodVars enc P W' sp s.vars (s.fn H (ds++[])).vars []:=by
  intro sp
  rw [hv,hs.2.2]
  simp [DataW.TrodVars]
 refine ⟨ds,[],p++[],[],p,[],hW0,hres _ _ _,hargs _ hold,hvs _,World.keptBut_mono (fun x hx=>⟨hx,?_⟩) (hb.frame (·∈p++[])),fun _=>?_⟩
 ·rw [List.mem_append] at hx
  exact Or.inr hx
 ·refine ⟨ok_one hb1 rfl (okWide_bool_mk hb2 true),_,_,([]++p)++[],⟨[]++p,[],trodAll_append (hargs _ (fun _ _=>rfl)) (hres _ _ _),hvs _,rfl,?_,?_⟩,?_⟩
  ·intro b off hp
   have hin:MemPlace.cell b off∈p++[]:=by simpa using hp
   rw [hb.frozen (hlt _ hin)]
   exact hz b off hin
  ·intro ha;cases ha
  ·intro x hx _
   simpa using hx
end Go.Proofs.YtdflnmfjpoodlaaGreatDoor
