/-
  The types of the program. The list of numbers that everything is made from: the next number, a new list. From 'the walk returns true and leaves what lay there as it was' to a statement's row; the arguments that come in, as the abstract machine sees them. The listed variable holds what the abstract machine says it holds; numbers and lists of numbers, as they come in.
-/
import Derived.Test.YtcidmiacfjdepaaDoorMab
import Derived.KernelRfl
import Derived.Test.YtcidmiacfjdepaaDoorRows
import Derived.ProofKit
import Derived.Test.YtcidmiacfjdepaaDoorGt
import Derived.Test.YtcidmiacfjdepaaDoorCards
import Derived.Test.YtcidmiacfjdepaaDoorTie
import Derived.SevenTiedAt
import Derived.LaidMore
import Derived.LaidHandle
import Derived.OpenShut
namespace Go.Proofs.YtcidmiacfjdepaaDoor
open Go.RowKit

theorem ty3 : TyOK Tryd.prog 3 (.int .i64) 1 8 [.base (.int .i64 0)] := by unfold TyOK; kernel_rfl
theorem ty4 : TyOK Tryd.prog 4 (.bool) 1 1 [.base (.bool false)] := by unfold TyOK; kernel_rfl
theorem ty5 : TyOK Tryd.prog 5 (.int .u8) 1 1 [.base (.int .u8 0)] := by unfold TyOK; kernel_rfl
theorem ty9 : TyOK Tryd.prog 9 (.str) 1 16 [.base (.string ⟨#[]⟩)] := by unfold TyOK; kernel_rfl
theorem ty22 : TyOK Tryd.prog 22 (.sl 3) 1 24 [.nils] := by unfold TyOK; kernel_rfl
theorem ty23 : TyOK Tryd.prog 23 (.int .u64) 1 8 [.base (.int .u64 0)] := by unfold TyOK; kernel_rfl
theorem ty25 : TyOK Tryd.prog 25 (.st [(0, 1, 4), (1, 1, 23), (2, 1, 23)]) 3 24 [.base (.bool false), .base (.int .u64 0), .base (.int .u64 0)] := by unfold TyOK; kernel_rfl
theorem ty27 : TyOK Tryd.prog 27 (.st [(0, 3, 25), (3, 1, 3)]) 4 32 [.base (.bool false), .base (.int .u64 0), .base (.int .u64 0), .base (.int .i64 0)] := by unfold TyOK; kernel_rfl
theorem ty28 : TyOK Tryd.prog 28 (.sl 76) 1 24 [.nils] := by unfold TyOK; kernel_rfl
theorem ty30 : TyOK Tryd.prog 30 (.st [(0, 4, 27), (4, 4, 27), (8, 1, 28), (9, 1, 28)]) 10 112 [.base (.bool false), .base (.int .u64 0), .base (.int .u64 0), .base (.int .i64 0), .base (.bool false), .base (.int .u64 0), .base (.int .u64 0), .base (.int .i64 0), .nils, .nils] := by unfold TyOK; kernel_rfl
theorem ty34 : TyOK Tryd.prog 34 (.sl 43) 1 24 [.nils] := by unfold TyOK; kernel_rfl
theorem ty38 : TyOK Tryd.prog 38 (.sl 88) 1 24 [.nils] := by unfold TyOK; kernel_rfl
theorem ty40 : TyOK Tryd.prog 40 (.sl 50) 1 24 [.nils] := by unfold TyOK; kernel_rfl
theorem ty41 : TyOK Tryd.prog 41 (.sl 25) 1 24 [.nils] := by unfold TyOK; kernel_rfl
theorem ty43 : TyOK Tryd.prog 43 (.st [(0, 1, 3), (1, 1, 3), (2, 1, 3), (3, 1, 40), (4, 1, 41), (5, 1, 41), (6, 1, 3), (7, 1, 3)]) 8 112 [.base (.int .i64 0), .base (.int .i64 0), .base (.int .i64 0), .nils, .nils, .nils, .base (.int .i64 0), .base (.int .i64 0)] := by unfold TyOK; kernel_rfl
theorem ty46 : TyOK Tryd.prog 46 (.sl 5) 1 24 [.nils] := by unfold TyOK; kernel_rfl
theorem ty49 : TyOK Tryd.prog 49 (.arr 6 5) 6 6 [.base (.int .u8 0), .base (.int .u8 0), .base (.int .u8 0), .base (.int .u8 0), .base (.int .u8 0), .base (.int .u8 0)] := by unfold TyOK; kernel_rfl
theorem ty50 : TyOK Tryd.prog 50 (.arr 6 5) 6 6 [.base (.int .u8 0), .base (.int .u8 0), .base (.int .u8 0), .base (.int .u8 0), .base (.int .u8 0), .base (.int .u8 0)] := by unfold TyOK; kernel_rfl
theorem ty52 : TyOK Tryd.prog 52 (.st [(0, 1, 3), (1, 6, 50), (7, 3, 25), (10, 6, 50), (16, 3, 25)]) 19 72 [.base (.int .i64 0), .base (.int .u8 0), .base (.int .u8 0), .base (.int .u8 0), .base (.int .u8 0), .base (.int .u8 0), .base (.int .u8 0), .base (.bool false), .base (.int .u64 0), .base (.int .u64 0), .base (.int .u8 0), .base (.int .u8 0), .base (.int .u8 0), .base (.int .u8 0), .base (.int .u8 0), .base (.int .u8 0), .base (.bool false), .base (.int .u64 0), .base (.int .u64 0)] := by unfold TyOK; kernel_rfl
theorem ty55 : TyOK Tryd.prog 55 (.st [(0, 6, 50), (6, 6, 50), (12, 1, 3), (13, 1, 3), (14, 1, 46)]) 15 56 [.base (.int .u8 0), .base (.int .u8 0), .base (.int .u8 0), .base (.int .u8 0), .base (.int .u8 0), .base (.int .u8 0), .base (.int .u8 0), .base (.int .u8 0), .base (.int .u8 0), .base (.int .u8 0), .base (.int .u8 0), .base (.int .u8 0), .base (.int .i64 0), .base (.int .i64 0), .nils] := by unfold TyOK; kernel_rfl
theorem ty71 : TyOK Tryd.prog 71 (.st [(0, 1, 22), (1, 1, 3)]) 2 32 [.nils, .base (.int .i64 0)] := by unfold TyOK; kernel_rfl
theorem ty74 : TyOK Tryd.prog 74 (.sl 83) 1 24 [.nils] := by unfold TyOK; kernel_rfl
theorem ty76 : TyOK Tryd.prog 76 (.st [(0, 1, 3), (1, 1, 9), (2, 1, 9), (3, 1, 3), (4, 1, 3), (5, 1, 74)]) 6 80 [.base (.int .i64 0), .base (.string ⟨#[]⟩), .base (.string ⟨#[]⟩), .base (.int .i64 0), .base (.int .i64 0), .nils] := by unfold TyOK; kernel_rfl
theorem ty78 : TyOK Tryd.prog 78 (.sl 9) 1 24 [.nils] := by unfold TyOK; kernel_rfl
theorem ty83 : TyOK Tryd.prog 83 (.st [(0, 1, 3), (1, 1, 3), (2, 1, 3), (3, 1, 40), (4, 3, 25), (7, 3, 25)]) 10 96 [.base (.int .i64 0), .base (.int .i64 0), .base (.int .i64 0), .nils, .base (.bool false), .base (.int .u64 0), .base (.int .u64 0), .base (.bool false), .base (.int .u64 0), .base (.int .u64 0)] := by unfold TyOK; kernel_rfl
theorem ty88 : TyOK Tryd.prog 88 (.st [(0, 3, 25), (3, 6, 50), (9, 1, 3)]) 10 40 [.base (.bool false), .base (.int .u64 0), .base (.int .u64 0), .base (.int .u8 0), .base (.int .u8 0), .base (.int .u8 0), .base (.int .u8 0), .base (.int .u8 0), .base (.int .u8 0), .base (.int .i64 0)] := by unfold TyOK; kernel_rfl
theorem ty99 : TyOK Tryd.prog 99 (.st [(0, 3, 25), (3, 3, 25), (6, 1, 3), (7, 1, 3), (8, 1, 46)]) 9 88 [.base (.bool false), .base (.int .u64 0), .base (.int .u64 0), .base (.bool false), .base (.int .u64 0), .base (.int .u64 0), .base (.int .i64 0), .base (.int .i64 0), .nils] := by unfold TyOK; kernel_rfl
theorem ty103 : TyOK Tryd.prog 103 (.st [(0, 1, 3), (1, 1, 3), (2, 3, 25), (5, 1, 4), (6, 6, 50)]) 12 48 [.base (.int .i64 0), .base (.int .i64 0), .base (.bool false), .base (.int .u64 0), .base (.int .u64 0), .base (.bool false), .base (.int .u8 0), .base (.int .u8 0), .base (.int .u8 0), .base (.int .u8 0), .base (.int .u8 0), .base (.int .u8 0)] := by unfold TyOK; kernel_rfl
theorem ty112 : TyOK Tryd.prog 112 (.int .u64) 1 8 [.base (.int .u64 0)] := by unfold TyOK; kernel_rfl
theorem ty140 : TyOK Tryd.prog 140 (.map 3 4) 1 8 [.base (.map none)] := by unfold TyOK; kernel_rfl
theorem ty141 : TyOK Tryd.prog 141 (.map 9 4) 1 8 [.base (.map none)] := by unfold TyOK; kernel_rfl
theorem ty142 : TyOK Tryd.prog 142 (.map 50 4) 1 8 [.base (.map none)] := by unfold TyOK; kernel_rfl
theorem ty143 : TyOK Tryd.prog 143 (.map 25 4) 1 8 [.base (.map none)] := by unfold TyOK; kernel_rfl
theorem ty145 : TyOK Tryd.prog 145 (.int .u16) 1 2 [.base (.int .u16 0)] := by unfold TyOK; kernel_rfl
theorem ty161 : TyOK Tryd.prog 161 (.sl 46) 1 24 [.nils] := by unfold TyOK; kernel_rfl
theorem fok6 : FnOK Tryd.prog 6 := ⟨Tryd.f6, Tryd.func6, by kernel_rfl, by kernel_rfl⟩
theorem fok7 : FnOK Tryd.prog 7 := ⟨Tryd.f7, Tryd.func7, by kernel_rfl, by kernel_rfl⟩
theorem fok8 : FnOK Tryd.prog 8 := ⟨Tryd.f8, Tryd.func8, by kernel_rfl, by kernel_rfl⟩
theorem fok9 : FnOK Tryd.prog 9 := ⟨Tryd.f9, Tryd.func9, by kernel_rfl, by kernel_rfl⟩
theorem fok10 : FnOK Tryd.prog 10 := ⟨Tryd.f10, Tryd.func10, by kernel_rfl, by kernel_rfl⟩
theorem fok11 : FnOK Tryd.prog 11 := ⟨Tryd.f11, Tryd.func11, by kernel_rfl, by kernel_rfl⟩
theorem fok12 : FnOK Tryd.prog 12 := ⟨Tryd.f12, Tryd.func12, by kernel_rfl, by kernel_rfl⟩
theorem fok13 : FnOK Tryd.prog 13 := ⟨Tryd.f13, Tryd.func13, by kernel_rfl, by kernel_rfl⟩
theorem fok14 : FnOK Tryd.prog 14 := ⟨Tryd.f14, Tryd.func14, by kernel_rfl, by kernel_rfl⟩
theorem fok15 : FnOK Tryd.prog 15 := ⟨Tryd.f15, Tryd.func15, by kernel_rfl, by kernel_rfl⟩
theorem fok16 : FnOK Tryd.prog 16 := ⟨Tryd.f16, Tryd.func16, by kernel_rfl, by kernel_rfl⟩
theorem fok17 : FnOK Tryd.prog 17 := ⟨Tryd.f17, Tryd.func17, by kernel_rfl, by kernel_rfl⟩
theorem fok18 : FnOK Tryd.prog 18 := ⟨Tryd.f18, Tryd.func18, by kernel_rfl, by kernel_rfl⟩
theorem fok19 : FnOK Tryd.prog 19 := ⟨Tryd.f19, Tryd.func19, by kernel_rfl, by kernel_rfl⟩
theorem fok20 : FnOK Tryd.prog 20 := ⟨Tryd.f20, Tryd.func20, by kernel_rfl, by kernel_rfl⟩
theorem fok21 : FnOK Tryd.prog 21 := ⟨Tryd.f21, Tryd.func21, by kernel_rfl, by kernel_rfl⟩
theorem fok22 : FnOK Tryd.prog 22 := ⟨Tryd.f22, Tryd.func22, by kernel_rfl, by kernel_rfl⟩
theorem fok23 : FnOK Tryd.prog 23 := ⟨Tryd.f23, Tryd.func23, by kernel_rfl, by kernel_rfl⟩
theorem fok24 : FnOK Tryd.prog 24 := ⟨Tryd.f24, Tryd.func24, by kernel_rfl, by kernel_rfl⟩
theorem fok25 : FnOK Tryd.prog 25 := ⟨Tryd.f25, Tryd.func25, by kernel_rfl, by kernel_rfl⟩
theorem fok26 : FnOK Tryd.prog 26 := ⟨Tryd.f26, Tryd.func26, by kernel_rfl, by kernel_rfl⟩
theorem fok27 : FnOK Tryd.prog 27 := ⟨Tryd.f27, Tryd.func27, by kernel_rfl, by kernel_rfl⟩
theorem fok28 : FnOK Tryd.prog 28 := ⟨Tryd.f28, Tryd.func28, by kernel_rfl, by kernel_rfl⟩
theorem fok29 : FnOK Tryd.prog 29 := ⟨Tryd.f29, Tryd.func29, by kernel_rfl, by kernel_rfl⟩
theorem fok30 : FnOK Tryd.prog 30 := ⟨Tryd.f30, Tryd.func30, by kernel_rfl, by kernel_rfl⟩
theorem fok31 : FnOK Tryd.prog 31 := ⟨Tryd.f31, Tryd.func31, by kernel_rfl, by kernel_rfl⟩
theorem fok32 : FnOK Tryd.prog 32 := ⟨Tryd.f32, Tryd.func32, by kernel_rfl, by kernel_rfl⟩
theorem fok33 : FnOK Tryd.prog 33 := ⟨Tryd.f33, Tryd.func33, by kernel_rfl, by kernel_rfl⟩
theorem fok34 : FnOK Tryd.prog 34 := ⟨Tryd.f34, Tryd.func34, by kernel_rfl, by kernel_rfl⟩
theorem fok35 : FnOK Tryd.prog 35 := ⟨Tryd.f35, Tryd.func35, by kernel_rfl, by kernel_rfl⟩
theorem fok36 : FnOK Tryd.prog 36 := ⟨Tryd.f36, Tryd.func36, by kernel_rfl, by kernel_rfl⟩
theorem fok37 : FnOK Tryd.prog 37 := ⟨Tryd.f37, Tryd.func37, by kernel_rfl, by kernel_rfl⟩
theorem fok38 : FnOK Tryd.prog 38 := ⟨Tryd.f38, Tryd.func38, by kernel_rfl, by kernel_rfl⟩
theorem fok39 : FnOK Tryd.prog 39 := ⟨Tryd.f39, Tryd.func39, by kernel_rfl, by kernel_rfl⟩
theorem fok40 : FnOK Tryd.prog 40 := ⟨Tryd.f40, Tryd.func40, by kernel_rfl, by kernel_rfl⟩
theorem fok41 : FnOK Tryd.prog 41 := ⟨Tryd.f41, Tryd.func41, by kernel_rfl, by kernel_rfl⟩
theorem fok42 : FnOK Tryd.prog 42 := ⟨Tryd.f42, Tryd.func42, by kernel_rfl, by kernel_rfl⟩
theorem fok43 : FnOK Tryd.prog 43 := ⟨Tryd.f43, Tryd.func43, by kernel_rfl, by kernel_rfl⟩
theorem fok44 : FnOK Tryd.prog 44 := ⟨Tryd.f44, Tryd.func44, by kernel_rfl, by kernel_rfl⟩
theorem fok45 : FnOK Tryd.prog 45 := ⟨Tryd.f45, Tryd.func45, by kernel_rfl, by kernel_rfl⟩
theorem fok46 : FnOK Tryd.prog 46 := ⟨Tryd.f46, Tryd.func46, by kernel_rfl, by kernel_rfl⟩
theorem fok47 : FnOK Tryd.prog 47 := ⟨Tryd.f47, Tryd.func47, by kernel_rfl, by kernel_rfl⟩
theorem fok48 : FnOK Tryd.prog 48 := ⟨Tryd.f48, Tryd.func48, by kernel_rfl, by kernel_rfl⟩
theorem fok49 : FnOK Tryd.prog 49 := ⟨Tryd.f49, Tryd.func49, by kernel_rfl, by kernel_rfl⟩
theorem fok50 : FnOK Tryd.prog 50 := ⟨Tryd.f50, Tryd.func50, by kernel_rfl, by kernel_rfl⟩
theorem fok51 : FnOK Tryd.prog 51 := ⟨Tryd.f51, Tryd.func51, by kernel_rfl, by kernel_rfl⟩
theorem fok52 : FnOK Tryd.prog 52 := ⟨Tryd.f52, Tryd.func52, by kernel_rfl, by kernel_rfl⟩
theorem fok53 : FnOK Tryd.prog 53 := ⟨Tryd.f53, Tryd.func53, by kernel_rfl, by kernel_rfl⟩
theorem fok54 : FnOK Tryd.prog 54 := ⟨Tryd.f54, Tryd.func54, by kernel_rfl, by kernel_rfl⟩
theorem fok55 : FnOK Tryd.prog 55 := ⟨Tryd.f55, Tryd.func55, by kernel_rfl, by kernel_rfl⟩
theorem fok56 : FnOK Tryd.prog 56 := ⟨Tryd.f56, Tryd.func56, by kernel_rfl, by kernel_rfl⟩
theorem fok57 : FnOK Tryd.prog 57 := ⟨Tryd.f57, Tryd.func57, by kernel_rfl, by kernel_rfl⟩
theorem fok58 : FnOK Tryd.prog 58 := ⟨Tryd.f58, Tryd.func58, by kernel_rfl, by kernel_rfl⟩
theorem fok59 : FnOK Tryd.prog 59 := ⟨Tryd.f59, Tryd.func59, by kernel_rfl, by kernel_rfl⟩
theorem fok60 : FnOK Tryd.prog 60 := ⟨Tryd.f60, Tryd.func60, by kernel_rfl, by kernel_rfl⟩
theorem fok61 : FnOK Tryd.prog 61 := ⟨Tryd.f61, Tryd.func61, by kernel_rfl, by kernel_rfl⟩
theorem fok62 : FnOK Tryd.prog 62 := ⟨Tryd.f62, Tryd.func62, by kernel_rfl, by kernel_rfl⟩
theorem fok63 : FnOK Tryd.prog 63 := ⟨Tryd.f63, Tryd.func63, by kernel_rfl, by kernel_rfl⟩
theorem fok64 : FnOK Tryd.prog 64 := ⟨Tryd.f64, Tryd.func64, by kernel_rfl, by kernel_rfl⟩
theorem fok65 : FnOK Tryd.prog 65 := ⟨Tryd.f65, Tryd.func65, by kernel_rfl, by kernel_rfl⟩
theorem fok66 : FnOK Tryd.prog 66 := ⟨Tryd.f66, Tryd.func66, by kernel_rfl, by kernel_rfl⟩
theorem fok67 : FnOK Tryd.prog 67 := ⟨Tryd.f67, Tryd.func67, by kernel_rfl, by kernel_rfl⟩
theorem fok68 : FnOK Tryd.prog 68 := ⟨Tryd.f68, Tryd.func68, by kernel_rfl, by kernel_rfl⟩
theorem fok69 : FnOK Tryd.prog 69 := ⟨Tryd.f69, Tryd.func69, by kernel_rfl, by kernel_rfl⟩
theorem fok70 : FnOK Tryd.prog 70 := ⟨Tryd.f70, Tryd.func70, by kernel_rfl, by kernel_rfl⟩
theorem fok71 : FnOK Tryd.prog 71 := ⟨Tryd.f71, Tryd.func71, by kernel_rfl, by kernel_rfl⟩
theorem fok72 : FnOK Tryd.prog 72 := ⟨Tryd.f72, Tryd.func72, by kernel_rfl, by kernel_rfl⟩
theorem fok73 : FnOK Tryd.prog 73 := ⟨Tryd.f73, Tryd.func73, by kernel_rfl, by kernel_rfl⟩
theorem fok74 : FnOK Tryd.prog 74 := ⟨Tryd.f74, Tryd.func74, by kernel_rfl, by kernel_rfl⟩
theorem fok75 : FnOK Tryd.prog 75 := ⟨Tryd.f75, Tryd.func75, by kernel_rfl, by kernel_rfl⟩
theorem fok76 : FnOK Tryd.prog 76 := ⟨Tryd.f76, Tryd.func76, by kernel_rfl, by kernel_rfl⟩
theorem fok77 : FnOK Tryd.prog 77 := ⟨Tryd.f77, Tryd.func77, by kernel_rfl, by kernel_rfl⟩
theorem fok78 : FnOK Tryd.prog 78 := ⟨Tryd.f78, Tryd.func78, by kernel_rfl, by kernel_rfl⟩
theorem fok79 : FnOK Tryd.prog 79 := ⟨Tryd.f79, Tryd.func79, by kernel_rfl, by kernel_rfl⟩
theorem fok80 : FnOK Tryd.prog 80 := ⟨Tryd.f80, Tryd.func80, by kernel_rfl, by kernel_rfl⟩
theorem fok81 : FnOK Tryd.prog 81 := ⟨Tryd.f81, Tryd.func81, by kernel_rfl, by kernel_rfl⟩
theorem fok82 : FnOK Tryd.prog 82 := ⟨Tryd.f82, Tryd.func82, by kernel_rfl, by kernel_rfl⟩
theorem fok83 : FnOK Tryd.prog 83 := ⟨Tryd.f83, Tryd.func83, by kernel_rfl, by kernel_rfl⟩
theorem fok84 : FnOK Tryd.prog 84 := ⟨Tryd.f84, Tryd.func84, by kernel_rfl, by kernel_rfl⟩
theorem fok85 : FnOK Tryd.prog 85 := ⟨Tryd.f85, Tryd.func85, by kernel_rfl, by kernel_rfl⟩
theorem fok86 : FnOK Tryd.prog 86 := ⟨Tryd.f86, Tryd.func86, by kernel_rfl, by kernel_rfl⟩
theorem fok87 : FnOK Tryd.prog 87 := ⟨Tryd.f87, Tryd.func87, by kernel_rfl, by kernel_rfl⟩
theorem fok88 : FnOK Tryd.prog 88 := ⟨Tryd.f88, Tryd.func88, by kernel_rfl, by kernel_rfl⟩
theorem fok89 : FnOK Tryd.prog 89 := ⟨Tryd.f89, Tryd.func89, by kernel_rfl, by kernel_rfl⟩
theorem fok90 : FnOK Tryd.prog 90 := ⟨Tryd.f90, Tryd.func90, by kernel_rfl, by kernel_rfl⟩
theorem fok91 : FnOK Tryd.prog 91 := ⟨Tryd.f91, Tryd.func91, by kernel_rfl, by kernel_rfl⟩
theorem fok92 : FnOK Tryd.prog 92 := ⟨Tryd.f92, Tryd.func92, by kernel_rfl, by kernel_rfl⟩
theorem fok93 : FnOK Tryd.prog 93 := ⟨Tryd.f93, Tryd.func93, by kernel_rfl, by kernel_rfl⟩
theorem fok94 : FnOK Tryd.prog 94 := ⟨Tryd.f94, Tryd.func94, by kernel_rfl, by kernel_rfl⟩
theorem fok95 : FnOK Tryd.prog 95 := ⟨Tryd.f95, Tryd.func95, by kernel_rfl, by kernel_rfl⟩
theorem fok96 : FnOK Tryd.prog 96 := ⟨Tryd.f96, Tryd.func96, by kernel_rfl, by kernel_rfl⟩
theorem fok97 : FnOK Tryd.prog 97 := ⟨Tryd.f97, Tryd.func97, by kernel_rfl, by kernel_rfl⟩
theorem fok98 : FnOK Tryd.prog 98 := ⟨Tryd.f98, Tryd.func98, by kernel_rfl, by kernel_rfl⟩
theorem fok99 : FnOK Tryd.prog 99 := ⟨Tryd.f99, Tryd.func99, by kernel_rfl, by kernel_rfl⟩
theorem fok100 : FnOK Tryd.prog 100 := ⟨Tryd.f100, Tryd.func100, by kernel_rfl, by kernel_rfl⟩
theorem fok101 : FnOK Tryd.prog 101 := ⟨Tryd.f101, Tryd.func101, by kernel_rfl, by kernel_rfl⟩
theorem fok102 : FnOK Tryd.prog 102 := ⟨Tryd.f102, Tryd.func102, by kernel_rfl, by kernel_rfl⟩
theorem fok103 : FnOK Tryd.prog 103 := ⟨Tryd.f103, Tryd.func103, by kernel_rfl, by kernel_rfl⟩
theorem mixed : Tryd.prog.follows .mixedOrders = true := by kernel_rfl
end Go.Proofs.YtcidmiacfjdepaaDoor
namespace Go.Proofs.YtcidmiacfjdepaaDoor
open Go.RowKit

theorem tmod_pos (v n : Int) (hn : 1 ≤ n) : -n < v.tmod n ∧ v.tmod n < n ∧ v % n = if v.tmod n < 0 then v.tmod n + n else v.tmod n := by
  have h0 := Int.emod_nonneg v (show n ≠ 0 by omega)
  have h1 := Int.emod_lt_of_pos v (show 0 < n by omega)
  rw [Int.tmod_eq_emod]
  have h3 : (n.natAbs : Int) = n := by omega
  split
  · refine ⟨by omega, by omega, ?_⟩
    rw [if_neg (by omega)]; omega
  · rename_i h
    have h2 : v % n ≠ 0 := fun e => h (.inr (Int.dvd_of_emod_eq_zero e))
    refine ⟨by omega, by omega, ?_⟩
    rw [if_pos (by omega)]; omega

theorem mod_any (v n : Int) (hn : 1 ≤ n) (hn2 : n ≤ 9223372036854775807) : AFn Tryd.prog 10 0 [.base (.int .i64 v), .base (.int .i64 n)] mt (.base (.int .i64 (v % n))) mt := by
  refine AFn.eq Tryd.func10 rfl rfl (Nat.le_of_ble_eq_true rfl) ?_
  obtain ⟨h1, h2, h3⟩ := tmod_pos v n hn
  refine Wq (Wr 0 1 (by decide) rfl rfl (Od rfl rfl (As rfl rfl) (Nl (Wq (Wr 5 9 (by decide) rfl rfl (Od rfl rfl (Mv rfl rfl) (Od rfl rfl (Mv rfl rfl) (Od rfl rfl (LO.rem rfl rfl rfl (by first|omega|decide|assumption|(simp;done)|(simp;omega))) (Od rfl rfl (As rfl rfl) (Nl (Wq (Wq (Wr 13 15 (by decide) rfl rfl (Od rfl rfl (Mv rfl rfl) (Od rfl rfl (Ls rfl rfl rfl) (Nl (W.cond rfl (fun hb => ?_) (fun hb => ?_))))))))))))))))))
  · have hb : v.tmod n < 0 := of_decide_eq_true hb
    refine Wr 19 23 (by decide) rfl rfl (Od rfl rfl (Mv rfl rfl) (Od rfl rfl (Mv rfl rfl) (Od rfl rfl (Ad0 rfl rfl rfl (by (first | exact IntWalk.i64_in _ (by omega) | assumption))) (Od rfl rfl (As rfl rfl) (Nl (Wq (Wr 27 29 (by decide) rfl rfl (Od rfl rfl (Mv rfl rfl) (Od rfl rfl (As rfl rfl) (Nl (W.ret ⟨.inl rfl, _, mt, RVs.cons (RV.tmp rfl) (RVs.nil), all_mt, ?_⟩)))))))))))
    exact ⟨by rw [h3, if_pos hb]; rfl, rfl⟩
  · have hb : ¬ v.tmod n < 0 := of_decide_eq_false hb
    refine Wk (Wq (Wr 27 29 (by decide) rfl rfl (Od rfl rfl (Mv rfl rfl) (Od rfl rfl (As rfl rfl) (Nl (W.ret ⟨.inl rfl, _, mt, RVs.cons (RV.tmp rfl) (RVs.nil), all_mt, ?_⟩))))))
    exact ⟨by rw [h3, if_neg hb]; rfl, rfl⟩

def deckC (l : List Int) (at_ : Nat) : List AV := [.isl (l.map fun z => .base (.int .i64 z)) l.length, .base (.int .i64 (at_ : Int))]
/-- the next number of a list -/
def nextV (l : List Int) (at_ : Nat) (n : Int) : Int := if h : at_ < l.length then l[at_] % n else 0
def nextAt (l : List Int) (at_ : Nat) : Nat := if at_ < l.length then at_ + 1 else at_
theorem next_any (l : List Int) (at_ : Nat) (n : Int) (hn : 1 ≤ n) (hn2 : n ≤ 9223372036854775807) (hl : l.length ≤ 9223372036854775807) :
    AFn Tryd.prog 23 1 [.own 0 0, .base (.int .i64 n)] (up mt 0 (some (deckC l at_))) (.base (.int .i64 (nextV l at_ n))) (up mt 0 (some (deckC l (nextAt l at_)))) := by
  refine AFn.eq Tryd.func23 rfl rfl (Nat.le_of_ble_eq_true rfl) ?_
  unfold deckC
  refine Wq (Wr 1 2 (by decide) rfl rfl (Od rfl rfl (As rfl rfl) (Nl (Wq (Wq (Wd 6 16 (by decide) rfl mixed rfl (Od rfl rfl (Mv rfl rfl) (Od rfl rfl (Nc rfl rfl) (Od rfl rfl (Fa rfl rfl ty71 rfl (by decide)) (Od rfl rfl (Ld rfl rfl rfl rfl ty3 rfl) (Od rfl rfl (Mv rfl rfl) (Od rfl rfl (Nc rfl rfl) (Od rfl rfl (Fa rfl rfl ty71 rfl (by decide)) (Od rfl rfl (Ld rfl rfl rfl rfl ty22 rfl) (Od rfl rfl (Ln rfl rfl rfl ty22) (Od rfl rfl (Ge0 rfl rfl rfl) (Nl ⟨by kernel_rfl, (W.cond rfl (fun hb => ?_) (fun hb => ?_))⟩)))))))))))))))))
  · have hb : ¬ at_ < l.length := by have := of_decide_eq_true hb; omega
    refine Wq (Wr 20 21 (by decide) rfl rfl (Od rfl rfl (As rfl rfl) (Nl (W.ret ⟨.inl rfl, _, up mt 0 (some (deckC l at_)), RVs.cons (RV.tmp rfl) RVs.nil, all_up rfl all_mt, ?_⟩))))
    exact ⟨by unfold nextV; rw [dif_neg hb]; rfl, by unfold nextAt deckC; rw [if_neg hb]⟩
  · have hb : at_ < l.length := by have := of_decide_eq_false hb; omega
    refine Wk ?_
    have he : (at_ : Int) + 1 - 1 = (at_ : Int) := by omega
    refine Wq (Wr 25 33 (by decide) rfl rfl (Od rfl rfl (Mv rfl rfl) (Od rfl rfl (Nc rfl rfl) (Od rfl rfl (Fa rfl rfl ty71 rfl (by decide)) (Od rfl rfl (Ld rfl rfl rfl rfl ty3 rfl) (Od rfl rfl (Ad0 rfl rfl rfl (by (first | exact IntWalk.i64_in _ (by omega) | assumption))) (Od rfl rfl (Nc rfl rfl) (Od rfl rfl (Fa rfl rfl ty71 rfl (by decide)) (On rfl rfl (Sr rfl rfl rfl rfl rfl ty3 rfl (by decide) (Sp.lit rfl)) (Nl ?_))))))))))
    have hg : (l.map fun z => AV.base (.int .i64 z))[at_ * 1]? = some (.base (.int .i64 l[at_])) := by simp [hb]
    refine Wq (Wd 37 51 (by decide) rfl mixed rfl (Od rfl rfl (Mv rfl rfl) (Od rfl rfl (Nc rfl rfl) (Od rfl rfl (Fa rfl rfl ty71 rfl (by decide)) (Od rfl rfl (Ld rfl rfl rfl rfl ty22 rfl) (Od rfl rfl (Mv rfl rfl) (Od rfl rfl (Nc rfl rfl) (Od rfl rfl (Fa rfl rfl ty71 rfl (by decide)) (Od rfl rfl (Ld rfl rfl rfl rfl ty3 rfl) (Od rfl rfl (LO.sub_in rfl rfl rfl (by (first | exact IntWalk.i64_in _ (by omega) | assumption))) (Od rfl rfl (Ii rfl rfl rfl rfl he ty22 ty3 (by first|omega|decide|assumption|(simp;done)|(simp;omega))) (Od rfl rfl (Li rfl rfl hg ty3 rfl) (Od rfl rfl (Mv rfl rfl) (Od rfl rfl (C0 (fr := []) rfl rfl (mod_any _ _ hn hn2) fok10 (.cons rfl (.pure rfl) (.cons rfl (.pure rfl) .nil)) rfl) (Od rfl rfl (As rfl rfl) (Nl ⟨by kernel_rfl, (W.ret ⟨.inl rfl, _, up mt 0 (some (deckC l (at_ + 1))), RVs.cons (RV.tmp rfl) RVs.nil, all_up rfl all_mt, ?_⟩)⟩))))))))))))))))
    exact ⟨by unfold nextV; rw [dif_pos hb]; rfl, by unfold nextAt deckC; rw [if_pos hb]⟩
theorem new_any (l : List Int) : AFn Tryd.prog 6 0 [.isl (l.map fun z => .base (.int .i64 z)) l.length] mt (.own 0 0) (up mt 0 (some (deckC l 0))) := by
  refine AFn.eq Tryd.func6 rfl rfl (Nat.le_of_ble_eq_true rfl) ?_
  unfold deckC
  refine Wq (Wr 0 1 (by decide) rfl rfl (Od rfl rfl (As rfl rfl) (Nl (Wq (Wr 5 9 (by decide) rfl rfl (Od rfl rfl (Mv rfl rfl) (Od rfl rfl (Bs rfl ty71 (.cons rfl rfl rfl rfl (Sp.lit rfl) .nil)) (Od rfl rfl (Bx rfl rfl rfl) (Od rfl rfl (As rfl rfl) (Nl (W.rename [(0, 7)] 1 (T' := up mt 2 (some (.own 0 0))) (H' := up mt 0 (some (deckC l 0))) (by decide) (all_up (.inr ⟨rfl, fun _ h => by cases h⟩) all_mt) (all_up ⟨rfl, _, rfl, .inr ⟨rfl, rfl⟩⟩ all_mt) (W.ret ⟨.inl rfl, _, up mt 0 (some (deckC l 0)), RVs.cons (RV.tmp rfl) RVs.nil, all_up rfl all_mt, ?_⟩))))))))))))
  exact ⟨rfl, rfl⟩
end Go.Proofs.YtcidmiacfjdepaaDoor
namespace Go.Proofs.YtcidmiacfjdepaaDoor
open Go.ChangeShapes Go.WideShapes Go.ChangeAt Go.RowKit

theorem Tryd.own : ownKnob Tryd.prog.godebug = none := by kernel_rfl
theorem Tryd.laidOut : laidOutB Tryd.prog = true := by kernel_rfl

theorem trodAll_stays {H : Type} {enc : TypeId × Value → H} {P : Program} (hl : laidOutB P = true) {W W' : World} {sp' : Nat → Bool} :
    ∀ {ts : List TypeId} {vs : List Value} {ds : List (DataW H)} {ps : List MemPlace}, (∀ t ∈ ts, P.readableRec t = true ∧ t < P.types.size) →
      DataW.TrodAll enc P W 0 (fun _ => true) true ts vs ds ps → (∀ p ∈ ps, W.sameAt W' p) → (∀ p ∈ ps, sp' p.block = true) → DataW.TrodAll enc P W' 0 sp' true ts vs ds ps
  | [], [], [], _, _, h, _, _ => h
  | _ :: _, _ :: _, _ :: _, _, hT, ⟨p, q, h1, h2, e⟩, hsame, hs =>
    ⟨p, q, WideElems.Trod_stays hl (hT _ (List.mem_cons.2 (Or.inl rfl))).1 (hT _ (List.mem_cons.2 (Or.inl rfl))).2 h1 (fun x hx => hsame x (by rw [e]; exact List.mem_append_left _ hx)) (fun x hx => hs x (by rw [e]; exact List.mem_append_left _ hx)),
      trodAll_stays hl (fun t ht => hT t (List.mem_cons.2 (Or.inr ht))) h2 (fun x hx => hsame x (by rw [e]; exact List.mem_append_right _ hx)) (fun x hx => hs x (by rw [e]; exact List.mem_append_right _ hx)), e⟩

theorem law_post {H : Type} {enc : TypeId × Value → H} {P : Program} {f : Func} {s : ChangeSpec} {fresh handsOn again : Bool} {W W' : World} {args : Array Value} {ds gs : List (DataW H)} {before : List MemPlace}
    (hl : laidOutB P = true) (hT : ∀ t ∈ f.params.toList, P.readableRec t = true ∧ t < P.types.size) (tb : TypeId) (hb1 : f.resultTypes = #[tb]) (hb2 : P.underlying tb = some .bool) (hv : s.vars = [])
    (hW : DataW.Whole enc P f.params.toList s.vars false W args.toList ds gs before)
    (hs : (s.fn H (ds ++ gs)).results = [.lit (.bool true)] ∧ (s.fn H (ds ++ gs)).args = ds ∧ (s.fn H (ds ++ gs)).vars = []) (hb : Below W.heap.size W W') :
    s.post enc P f false fresh handsOn again W args (.bool true) W' := by
  have hlt : ∀ p ∈ before, p.block < W.heap.size := fun p hp => hW.lt p hp
  have hW0 := hW
  obtain ⟨p, q, hA, hV, rfl, hz, hn⟩ := hW
  rw [hv] at hV
  obtain ⟨rfl, rfl⟩ := trodVars_none hV
  have hsame : ∀ x ∈ p, W.sameAt W' x := fun x hx => hb.same (hlt x (List.mem_append_left _ hx))
  have hres : ∀ (b : Nat) (sp : Nat → Bool) (hd : Bool), DataW.TrodAll enc P W' b sp hd f.resultTypes.toList ((Value.bool true).resultList f.resultTypes.size) (s.fn H (ds ++ [])).results [] := by
    intro b sp hd
    rw [hb1, hs.1]
    exact trodAll_mk1 (shut_bool hb2 true)
  have hargs : ∀ sp : Nat → Bool, (∀ x ∈ p ++ [], sp x.block = true) → DataW.TrodAll enc P W' 0 sp true f.params.toList args.toList (s.fn H (ds ++ [])).args p := by
    intro sp hsp
    rw [hs.2.1]
    exact trodAll_stays hl hT hA hsame (fun x hx => hsp x (List.mem_append_left _ hx))
  have hold : ∀ x ∈ p ++ [], (fun b => decide (b < W.heap.size)) x.block = true := fun x hx => by simpa using hlt x hx
  have hvs : ∀ sp : Nat → Bool, DataW.TrodVars enc P W' sp s.vars (s.fn H (ds ++ [])).vars [] := by
    intro sp
    rw [hv, hs.2.2]
    simp [DataW.TrodVars]
  refine ⟨ds, [], p ++ [], [], p, [], hW0, hres _ _ _, hargs _ hold, hvs _, World.keptBut_mono (fun x hx => ⟨hx, ?_⟩) (hb.frame (· ∈ p ++ [])), fun _ => ?_⟩
  · rw [List.mem_append] at hx
    exact Or.inr hx
  · refine ⟨ok_one hb1 rfl (okWide_bool_mk hb2 true), _, _, ([] ++ p) ++ [], ⟨[] ++ p, [], trodAll_append (hargs _ (fun _ _ => rfl)) (hres _ _ _), hvs _, rfl, ?_, ?_⟩, ?_⟩
    · intro b off hp
      have hin : MemPlace.cell b off ∈ p ++ [] := by simpa using hp
      rw [hb.frozen (hlt _ hin)]
      exact hz b off hin
    · intro ha; cases ha
    · intro x hx _
      simpa using hx

end Go.Proofs.YtcidmiacfjdepaaDoor
namespace Go.Proofs.YtcidmiacfjdepaaDoor
open Go.ChangeShapes Go.WideShapes Go.ChangeAt Go.RowKit

theorem Tryd.gHead : Tryd.prog.globalNamed "exchangepoint/arp.head" = some 0 := by kernel_rfl
theorem Tryd.tHead : (Tryd.prog.globals[0]?).map (·.type) = some 49 := by kernel_rfl
set_option maxRecDepth 20000 in
theorem open_u8s {H : Type} {enc : TypeId × Value → H} {w : World} {base : Nat} {spare : Nat → Bool} {held : Bool} {fuel : Nat} {t : TypeId} {n : Nat} {cs : List Value} {y : DataW H × List MemPlace}
    (ht : Tryd.prog.underlying t = some (.array n 5)) (hc : Tryd.prog.cellsOf t = n) (h : DataW.trod enc Tryd.prog w base spare held fuel t cs = some y) :
    ∃ ks : List Int, cs = ks.map (Value.int .u8) ∧ y.1 = .agg (ks.map fun k => .lit (.int .u8 k)) := by
  obtain ⟨xs, m, _, hx, hl, hn, hel⟩ := DataW.trod_array ht h
  have hce : Tryd.prog.cellsOf 5 = 1 := by kernel_rfl
  rw [hc] at hl
  rw [hce] at hel
  have key : ∀ i, i < n → ∃ k : Int, cs[i]? = some (.int .u8 k) ∧ (xs[i]?).map (·.1) = some (.lit (.int .u8 k)) := fun i hi => by
    have h1 := hel i hi
    rw [Nat.mul_one] at h1
    have h2 : xs[i]? = some xs[i] := List.getElem?_eq_getElem (by omega)
    rw [h2] at h1
    obtain ⟨k, e1, e2, _⟩ := DataW.trod_int Tryd.underlying5 h1
    refine ⟨k, ?_, by rw [h2]; simp [e2]⟩
    have h3 : ((cs.drop i).take 1)[0]? = some (.int .u8 k) := by rw [e1]; rfl
    simpa using h3
  have hks : ∃ ks : List Int, ks.length = n ∧ ∀ i, i < n → ∀ k, cs[i]? = some (.int .u8 k) → ks[i]? = some k := by
    refine ⟨cs.map fun v => match v with
      | .int _ z => z
      | _ => 0, by simpa using hl, fun i hi k hk => by simp [hk]⟩
  obtain ⟨ks, hkl, hk⟩ := hks
  refine ⟨ks, ?_, ?_⟩
  · refine List.ext_getElem? fun i => ?_
    by_cases hi : i < n
    · obtain ⟨k, h1, _⟩ := key i hi
      rw [h1, List.getElem?_map, hk i hi k h1]; rfl
    · rw [List.getElem?_eq_none (by omega), List.getElem?_eq_none (by simp; omega)]
  · rw [hx]
    show DataW.agg _ = _
    congr 1
    refine List.ext_getElem? fun i => ?_
    by_cases hi : i < n
    · obtain ⟨k, h1, h2⟩ := key i hi
      rw [List.getElem?_map, h2, List.getElem?_map, hk i hi k h1]; rfl
    · rw [List.getElem?_eq_none (by simp; omega), List.getElem?_eq_none (by simp; omega)]
theorem lits_inj {H : Type} {a b : List Int} (h : (a.map fun k => (DataW.lit (.int .u8 k) : DataW H)) = b.map fun k => .lit (.int .u8 k)) : a = b := by
  induction a generalizing b with
  | nil => cases b with
    | nil => rfl
    | cons y b => cases h
  | cons x a ih =>
    cases b with
    | nil => cases h
    | cons y b =>
      simp only [List.map_cons, List.cons.injEq, DataW.lit.injEq, Lit.int.injEq, true_and] at h
      rw [h.1, ih h.2]
/-- what the listed variable's condition gives -/
theorem glob_of_laid {W : World} (h : laidMetH Tryd.prog [("exchangepoint/arp.head", Rows.laid_exchangepoint_arp_head)] W) : Glob (fun _ => False) W := by
  rw [MakeChecks.laidMetH_plain _ _ _ (by kernel_rfl)] at h
  obtain ⟨ps, ⟨g1, t1, cs1, f1, p1, q1, hg1, ht1, hv1, hd1, _, _⟩, _, _⟩ := h
  obtain rfl := Option.some.inj (Tryd.gHead.symm.trans hg1)
  obtain rfl := Option.some.inj (Tryd.tHead.symm.trans ht1)
  obtain ⟨ks, e1, e2⟩ := open_u8s Tryd.underlying49 (by kernel_rfl) hd1
  rw [show (Rows.laid_exchangepoint_arp_head : DataW Unit) = .agg (([0, 1, 8, 0, 6, 4] : List Int).map fun k => .lit (.int .u8 k)) from rfl] at e2
  have e3 := lits_inj (DataW.agg.inj e2)
  subst e3
  obtain ⟨l⟩ := cs1
  simp only at e1
  subst e1
  have hc : ∀ i, W.cell? ⟨0, i, none⟩ = _ := fun i => World.var?_cell Tryd.gHead hv1 i
  have hlt := World.block_lt_of_cell? W _ ((hc 0).trans (by rfl))
  intro g vs hg
  have hg1 : g = 0 ∧ vs = ([0, 1, 8, 0, 6, 4] : List Int).map (Value.int .u8) := by
    unfold gRaw at hg
    split at hg
    · injection hg with hg; exact ⟨rfl, hg.symm⟩
    · cases hg
  obtain ⟨rfl, rfl⟩ := hg1
  refine ⟨hlt, fun h => h, fun i v hv => ?_⟩
  rw [hc i, ← hv, List.getElem?_toArray]
section
variable {H : Type} {enc : TypeId × Value → H}
theorem opInt : Opens enc Tryd.prog 3 (fun (z : Int) => [.base (.int .i64 z)]) (fun z => (Lit.int .i64 z).wf = true) := .int Tryd.underlying3
theorem opInts : Opens enc Tryd.prog 22 (fun (l : List Int) => [.isl (l.map fun z => .base (.int .i64 z)) l.length]) (fun l => l.length ≤ 9223372036854775807) :=
  (Opens.slice (n := 1) Tryd.underlying22 opInt (by kernel_rfl) (by decide) (fun _ _ => rfl)).map id (fun l _ => by rw [List.map_eq_flatMap]; rfl) (fun l h => by have := h.1; unfold maxLen at this; simp only [id]; omega)
end
end Go.Proofs.YtcidmiacfjdepaaDoor
