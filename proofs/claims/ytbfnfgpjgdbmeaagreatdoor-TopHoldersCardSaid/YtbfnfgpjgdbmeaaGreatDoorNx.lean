/-
  Calls that are carried out (1). Calls that are carried out (2). Calls that are carried out (3). Calls that are carried out (4). Calls that are carried out (5). Calls that are carried out (6). Calls that are carried out (7). The ports of the database of no draws, by the contract; the sanity check gives true. TopHolders returns true.
-/
import Derived.Test.YtbfnfgpjgdbmeaaGreatDoorE23
import Derived.Test.YtbfnfgpjgdbmeaaGreatDoorHe
import Derived.Test.YtbfnfgpjgdbmeaaGreatDoorMab
namespace Go.Proofs.YtbfnfgpjgdbmeaaGreatDoor
open Go.RowKit
noncomputable def envK0:Env Tryz.prog:=envA
def kE2:KnE:=⟨306,6,[.osl 0 0 2 1],[(0,[.nils,.osl 1 0 2 6]),(1,[vI 1,.base (.string ⟨⟨[97]⟩⟩),.base (.string ⟨⟨[]⟩⟩),vI 0,vI 0,.osl 2 0 1 10,vI 8,.base (.string ⟨⟨[98,45,50]⟩⟩),.base (.string ⟨⟨[]⟩⟩),vI 0,vI 0,.osl 3 0 1 10]),(2,[vI 3,vI 0,vI 1,.osl 4 0 1 6,vF,vU 0,vU 3221225986,vF,vU 0,vU 0]),(3,[vI 6,vI 0,vI 1,.osl 5 0 1 6,vF,vU 0,vU 3221225987,vF,vU 0,vU 0]),(4,[vB 2,vB 0,vB 0,vB 0,vB 0,vB 101]),(5,[vB 2,vB 0,vB 0,vB 0,vB 0,vB 102])],.osl 870 0 2 6,[(0,[.nils,.osl 1 0 2 6]),(1,[vI 1,.base (.string ⟨⟨[97]⟩⟩),.base (.string ⟨⟨[]⟩⟩),vI 0,vI 0,.osl 2 0 1 10,vI 8,.base (.string ⟨⟨[98,45,50]⟩⟩),.base (.string ⟨⟨[]⟩⟩),vI 0,vI 0,.osl 3 0 1 10]),(2,[vI 3,vI 0,vI 1,.osl 4 0 1 6,vF,vU 0,vU 3221225986,vF,vU 0,vU 0]),(3,[vI 6,vI 0,vI 1,.osl 5 0 1 6,vF,vU 0,vU 3221225987,vF,vU 0,vU 0]),(4,[vB 2,vB 0,vB 0,vB 0,vB 0,vB 101]),(5,[vB 2,vB 0,vB 0,vB 0,vB 0,vB 102]),(870,[vI 1,.base (.string ⟨⟨[97]⟩⟩),.base (.string ⟨⟨[]⟩⟩),vI 0,vI 0,.osl 2 0 1 10,vI 8,.base (.string ⟨⟨[98,45,50]⟩⟩),.base (.string ⟨⟨[]⟩⟩),vI 0,vI 0,.osl 3 0 1 10])]⟩
theorem kE2_ok:kE2.OK Tryz.prog:=KnE.run envK0 60 kE2 (by kernel_rfl)
def kE3:KnE:=⟨293,2,[.agg [vI 1,.base (.string ⟨⟨[97]⟩⟩),.base (.string ⟨⟨[]⟩⟩),vI 0,vI 0,.osl 0 0 1 10]],[(0,[vI 3,vI 0,vI 1,.osl 1 0 1 6,vF,vU 0,vU 3221225986,vF,vU 0,vU 0]),(1,[vB 2,vB 0,vB 0,vB 0,vB 0,vB 101])],vT,[(0,[vI 3,vI 0,vI 1,.osl 1 0 1 6,vF,vU 0,vU 3221225986,vF,vU 0,vU 0]),(1,[vB 2,vB 0,vB 0,vB 0,vB 0,vB 101])]⟩
theorem kE3_ok:kE3.OK Tryz.prog:=KnE.run envK0 60 kE3 (by kernel_rfl)
def kE4:KnE:=⟨293,2,[.agg [vI 8,.base (.string ⟨⟨[98,45,50]⟩⟩),.base (.string ⟨⟨[]⟩⟩),vI 0,vI 0,.osl 0 0 1 10]],[(0,[vI 6,vI 0,vI 1,.osl 1 0 1 6,vF,vU 0,vU 3221225987,vF,vU 0,vU 0]),(1,[vB 2,vB 0,vB 0,vB 0,vB 0,vB 102])],vT,[(0,[vI 6,vI 0,vI 1,.osl 1 0 1 6,vF,vU 0,vU 3221225987,vF,vU 0,vU 0]),(1,[vB 2,vB 0,vB 0,vB 0,vB 0,vB 102])]⟩
theorem kE4_ok:kE4.OK Tryz.prog:=KnE.run envK0 60 kE4 (by kernel_rfl)
def kE5:KnE:=⟨119,0,[.agg [vF,vU 0,vU 3221225984],vI 24],[],.agg [vF,vU 0,vU 3221225984],[]⟩
theorem kE5_ok:kE5.OK Tryz.prog:=KnE.run envK0 60 kE5 (by kernel_rfl)
def kE6:KnE:=⟨119,0,[.agg [vT,vU 2306139568115548160,vU 0],vI 64],[],.agg [vT,vU 2306139568115548160,vU 0],[]⟩
theorem kE6_ok:kE6.OK Tryz.prog:=KnE.run envK0 60 kE6 (by kernel_rfl)
def kE7:KnE:=⟨374,0,[.base (.string ⟨⟨[97,98,99,100,101,102,103,104,105,106,107,108,109,110,111,112,113,114,115,116,117,118,119,120,121,122,65,66,67,68,69,70,71,72,73,74,75,76,77,78,79,80,81,82,83,84,85,86,87,88,89,90,48,49,50,51,52,53,54,55,56,57,45,58]⟩⟩)],[],.tup [.agg [vF,vF,vF,vF,vF,vF,vF,vF,vF,vF,vF,vF,vF,vF,vF,vF,vF,vF,vF,vF,vF,vF,vF,vF,vF,vF,vF,vF,vF,vF,vF,vF,vF,vF,vF,vF,vF,vF,vF,vF,vF,vF,vF,vF,vF,vT,vF,vF,vT,vT,vT,vT,vT,vT,vT,vT,vT,vT,vT,vF,vF,vF,vF,vF,vF,vT,vT,vT,vT,vT,vT,vT,vT,vT,vT,vT,vT,vT,vT,vT,vT,vT,vT,vT,vT,vT,vT,vT,vT,vT,vT,vF,vF,vF,vF,vF,vF,vT,vT,vT,vT,vT,vT,vT,vT,vT,vT,vT,vT,vT,vT,vT,vT,vT,vT,vT,vT,vT,vT,vT,vT,vT,vT,vF,vF,vF,vF,vF,vF,vF,vF,vF,vF,vF,vF,vF,vF,vF,vF,vF,vF,vF,vF,vF,vF,vF,vF,vF,vF,vF,vF,vF,vF,vF,vF,vF,vF,vF,vF,vF,vF,vF,vF,vF,vF,vF,vF,vF,vF,vF,vF,vF,vF,vF,vF,vF,vF,vF,vF,vF,vF,vF,vF,vF,vF,vF,vF,vF,vF,vF,vF,vF,vF,vF,vF,vF,vF,vF,vF,vF,vF,vF,vF,vF,vF,vF,vF,vF,vF,vF,vF,vF,vF,vF,vF,vF,vF,vF,vF,vF,vF,vF,vF,vF,vF,vF,vF,vF,vF,vF,vF,vF,vF,vF,vF,vF,vF,vF,vF,vF,vF,vF,vF,vF,vF,vF,vF,vF,vF,vF,vF,vF,vF,vF,vF,vF],vT],[]⟩
theorem kE7_ok:kE7.OK Tryz.prog:=KnE.run envK0 60 kE7 (by kernel_rfl)
def kE8:KnE:=⟨298,1,[.agg [vI 3,vI 0,vI 1,.osl 0 0 1 6,vF,vU 0,vU 3221225986,vF,vU 0,vU 0]],[(0,[vB 2,vB 0,vB 0,vB 0,vB 0,vB 101])],vT,[(0,[vB 2,vB 0,vB 0,vB 0,vB 0,vB 101])]⟩
theorem kE8_ok:kE8.OK Tryz.prog:=KnE.run envK0 60 kE8 (by kernel_rfl)
def kE9:KnE:=⟨376,1,[.base (.string ⟨⟨[98,45,50]⟩⟩),.own 0 0],[(0,[vF,vF,vF,vF,vF,vF,vF,vF,vF,vF,vF,vF,vF,vF,vF,vF,vF,vF,vF,vF,vF,vF,vF,vF,vF,vF,vF,vF,vF,vF,vF,vF,vF,vF,vF,vF,vF,vF,vF,vF,vF,vF,vF,vF,vF,vT,vF,vF,vT,vT,vT,vT,vT,vT,vT,vT,vT,vT,vT,vF,vF,vF,vF,vF,vF,vT,vT,vT,vT,vT,vT,vT,vT,vT,vT,vT,vT,vT,vT,vT,vT,vT,vT,vT,vT,vT,vT,vT,vT,vT,vT,vF,vF,vF,vF,vF,vF,vT,vT,vT,vT,vT,vT,vT,vT,vT,vT,vT,vT,vT,vT,vT,vT,vT,vT,vT,vT,vT,vT,vT,vT,vT,vT,vF,vF,vF,vF,vF,vF,vF,vF,vF,vF,vF,vF,vF,vF,vF,vF,vF,vF,vF,vF,vF,vF,vF,vF,vF,vF,vF,vF,vF,vF,vF,vF,vF,vF,vF,vF,vF,vF,vF,vF,vF,vF,vF,vF,vF,vF,vF,vF,vF,vF,vF,vF,vF,vF,vF,vF,vF,vF,vF,vF,vF,vF,vF,vF,vF,vF,vF,vF,vF,vF,vF,vF,vF,vF,vF,vF,vF,vF,vF,vF,vF,vF,vF,vF,vF,vF,vF,vF,vF,vF,vF,vF,vF,vF,vF,vF,vF,vF,vF,vF,vF,vF,vF,vF,vF,vF,vF,vF,vF,vF,vF,vF,vF,vF,vF,vF,vF,vF,vF,vF,vF,vF,vF,vF,vF,vF,vF,vF,vF,vF,vF,vF,vF])],.base (.string ⟨⟨[]⟩⟩),[(0,[vF,vF,vF,vF,vF,vF,vF,vF,vF,vF,vF,vF,vF,vF,vF,vF,vF,vF,vF,vF,vF,vF,vF,vF,vF,vF,vF,vF,vF,vF,vF,vF,vF,vF,vF,vF,vF,vF,vF,vF,vF,vF,vF,vF,vF,vT,vF,vF,vT,vT,vT,vT,vT,vT,vT,vT,vT,vT,vT,vF,vF,vF,vF,vF,vF,vT,vT,vT,vT,vT,vT,vT,vT,vT,vT,vT,vT,vT,vT,vT,vT,vT,vT,vT,vT,vT,vT,vT,vT,vT,vT,vF,vF,vF,vF,vF,vF,vT,vT,vT,vT,vT,vT,vT,vT,vT,vT,vT,vT,vT,vT,vT,vT,vT,vT,vT,vT,vT,vT,vT,vT,vT,vT,vF,vF,vF,vF,vF,vF,vF,vF,vF,vF,vF,vF,vF,vF,vF,vF,vF,vF,vF,vF,vF,vF,vF,vF,vF,vF,vF,vF,vF,vF,vF,vF,vF,vF,vF,vF,vF,vF,vF,vF,vF,vF,vF,vF,vF,vF,vF,vF,vF,vF,vF,vF,vF,vF,vF,vF,vF,vF,vF,vF,vF,vF,vF,vF,vF,vF,vF,vF,vF,vF,vF,vF,vF,vF,vF,vF,vF,vF,vF,vF,vF,vF,vF,vF,vF,vF,vF,vF,vF,vF,vF,vF,vF,vF,vF,vF,vF,vF,vF,vF,vF,vF,vF,vF,vF,vF,vF,vF,vF,vF,vF,vF,vF,vF,vF,vF,vF,vF,vF,vF,vF,vF,vF,vF,vF,vF,vF,vF,vF,vF,vF,vF,vF])]⟩
theorem kE9_ok:kE9.OK Tryz.prog:=KnE.run envK0 60 kE9 (by kernel_rfl)
def kE10:KnE:=⟨298,1,[.agg [vI 6,vI 0,vI 1,.osl 0 0 1 6,vF,vU 0,vU 3221225987,vF,vU 0,vU 0]],[(0,[vB 2,vB 0,vB 0,vB 0,vB 0,vB 102])],vT,[(0,[vB 2,vB 0,vB 0,vB 0,vB 0,vB 102])]⟩
theorem kE10_ok:kE10.OK Tryz.prog:=KnE.run envK0 60 kE10 (by kernel_rfl)
def kE11:KnE:=⟨119,0,[.agg [vF,vU 0,vU 3221225986],vI 24],[],.agg [vF,vU 0,vU 3221225984],[]⟩
theorem kE11_ok:kE11.OK Tryz.prog:=KnE.run envK0 60 kE11 (by kernel_rfl)
def kE12:KnE:=⟨119,0,[.agg [vF,vU 0,vU 3221225987],vI 24],[],.agg [vF,vU 0,vU 3221225984],[]⟩
theorem kE12_ok:kE12.OK Tryz.prog:=KnE.run envK0 60 kE12 (by kernel_rfl)
def kE13:KnE:=⟨192,0,[.agg [vF,vU 0,vU 3221225984]],[],.osl 144 0 4 1,[(144,[vB 192,vB 0,vB 2,vB 0])]⟩
theorem kE13_ok:kE13.OK Tryz.prog:=KnE.run envK0 60 kE13 (by kernel_rfl)
def kE14:KnE:=⟨382,1,[.osl 0 1 3 1,vU 192],[(0,[vB 0,vB 0,vB 0,vB 0,vB 0,vB 0,vB 0,vB 0,vB 0,vB 0,vB 0,vB 0,vB 0,vB 0,vB 0,vB 0,vB 0,vB 0,vB 0,vB 0,vB 0,vB 0,vB 0,vB 0])],.tup [],[(0,[vB 0,vB 49,vB 57,vB 50,vB 0,vB 0,vB 0,vB 0,vB 0,vB 0,vB 0,vB 0,vB 0,vB 0,vB 0,vB 0,vB 0,vB 0,vB 0,vB 0,vB 0,vB 0,vB 0,vB 0])]⟩
theorem kE14_ok:kE14.OK Tryz.prog:=KnE.run envK0 60 kE14 (by kernel_rfl)
def kE15:KnE:=⟨304,1,[.own 0 0,vI 9],[(0,[.tyOf 0 307 2,.nils])],.tup [],[(0,[.own 0 0,.oslt 305 0 0 1 5]),(305,[])]⟩
theorem kE15_ok:kE15.OK Tryz.prog:=KnE.run envK0 60 kE15 (by kernel_rfl)
def kE16:KnE:=⟨348,0,[.agg [vT,vU 2306139568115548160,vU 0]],[],.agg [vU 8193,vU 3512,vU 0,vU 0,vU 0,vU 0,vU 0,vU 0],[]⟩
theorem kE16_ok:kE16.OK Tryz.prog:=KnE.run envK0 60 kE16 (by kernel_rfl)
def kE17:KnE:=⟨349,0,[.agg [vU 8193,vU 3512,vU 0,vU 0,vU 0,vU 0,vU 0,vU 0]],[],.tup [vI 2,vI 6],[]⟩
theorem kE17_ok:kE17.OK Tryz.prog:=KnE.run envK0 60 kE17 (by kernel_rfl)
def kE18:KnE:=⟨383,0,[.nils,vU 8193,vI 16,vF,vF],[],.tup [.nils,.base (.string ⟨⟨[50,48,48,49]⟩⟩)],[]⟩
theorem kE18_ok:kE18.OK Tryz.prog:=KnE.run envK0 60 kE18 (by kernel_rfl)
def kE19:KnE:=⟨383,0,[.nils,vU 3512,vI 16,vF,vF],[],.tup [.nils,.base (.string ⟨⟨[100,98,56]⟩⟩)],[]⟩
theorem kE19_ok:kE19.OK Tryz.prog:=KnE.run envK0 60 kE19 (by kernel_rfl)
def kE20:KnE:=⟨304,1,[.own 0 0,vI 8],[(0,[.tyOf 0 307 2,.nils])],.tup [],[(0,[.own 0 0,.oslt 305 0 0 1 5]),(305,[])]⟩
theorem kE20_ok:kE20.OK Tryz.prog:=KnE.run envK0 60 kE20 (by kernel_rfl)
def kE21:KnE:=⟨304,1,[.own 0 0,vI 17],[(0,[.tyOf 0 307 2,.nils])],.tup [],[(0,[.own 0 0,.oslt 305 0 0 1 5]),(305,[])]⟩
theorem kE21_ok:kE21.OK Tryz.prog:=KnE.run envK0 60 kE21 (by kernel_rfl)
def kE22:KnE:=⟨192,0,[.agg [vF,vU 0,vU 3221225986]],[],.osl 144 0 4 1,[(144,[vB 192,vB 0,vB 2,vB 2])]⟩
theorem kE22_ok:kE22.OK Tryz.prog:=KnE.run envK0 60 kE22 (by kernel_rfl)
def kE23:KnE:=⟨304,1,[.own 0 0,vI 40],[(0,[.tyOf 0 307 2,.nils])],.tup [],[(0,[.own 0 0,.oslt 305 0 0 1 5]),(305,[])]⟩
theorem kE23_ok:kE23.OK Tryz.prog:=KnE.run envK0 60 kE23 (by kernel_rfl)
def kE24:KnE:=⟨192,0,[.agg [vF,vU 0,vU 3221225987]],[],.osl 144 0 4 1,[(144,[vB 192,vB 0,vB 2,vB 3])]⟩
theorem kE24_ok:kE24.OK Tryz.prog:=KnE.run envK0 60 kE24 (by kernel_rfl)
def kE25:KnE:=⟨390,0,[.base (.string ⟨⟨[49,57,50]⟩⟩)],[],.tup [vI 192,.base .nilIface],[]⟩
theorem kE25_ok:kE25.OK Tryz.prog:=KnE.run envK0 60 kE25 (by kernel_rfl)
def kE26:KnE:=⟨390,0,[.base (.string ⟨⟨[48]⟩⟩)],[],.tup [vI 0,.base .nilIface],[]⟩
theorem kE26_ok:kE26.OK Tryz.prog:=KnE.run envK0 60 kE26 (by kernel_rfl)
def kE27:KnE:=⟨390,0,[.base (.string ⟨⟨[50]⟩⟩)],[],.tup [vI 2,.base .nilIface],[]⟩
theorem kE27_ok:kE27.OK Tryz.prog:=KnE.run envK0 60 kE27 (by kernel_rfl)
def kE28:KnE:=⟨374,0,[.base (.string ⟨⟨[48,49,50,51,52,53,54,55,56,57]⟩⟩)],[],.tup [.agg [vF,vF,vF,vF,vF,vF,vF,vF,vF,vF,vF,vF,vF,vF,vF,vF,vF,vF,vF,vF,vF,vF,vF,vF,vF,vF,vF,vF,vF,vF,vF,vF,vF,vF,vF,vF,vF,vF,vF,vF,vF,vF,vF,vF,vF,vF,vF,vF,vT,vT,vT,vT,vT,vT,vT,vT,vT,vT,vF,vF,vF,vF,vF,vF,vF,vF,vF,vF,vF,vF,vF,vF,vF,vF,vF,vF,vF,vF,vF,vF,vF,vF,vF,vF,vF,vF,vF,vF,vF,vF,vF,vF,vF,vF,vF,vF,vF,vF,vF,vF,vF,vF,vF,vF,vF,vF,vF,vF,vF,vF,vF,vF,vF,vF,vF,vF,vF,vF,vF,vF,vF,vF,vF,vF,vF,vF,vF,vF,vF,vF,vF,vF,vF,vF,vF,vF,vF,vF,vF,vF,vF,vF,vF,vF,vF,vF,vF,vF,vF,vF,vF,vF,vF,vF,vF,vF,vF,vF,vF,vF,vF,vF,vF,vF,vF,vF,vF,vF,vF,vF,vF,vF,vF,vF,vF,vF,vF,vF,vF,vF,vF,vF,vF,vF,vF,vF,vF,vF,vF,vF,vF,vF,vF,vF,vF,vF,vF,vF,vF,vF,vF,vF,vF,vF,vF,vF,vF,vF,vF,vF,vF,vF,vF,vF,vF,vF,vF,vF,vF,vF,vF,vF,vF,vF,vF,vF,vF,vF,vF,vF,vF,vF,vF,vF,vF,vF,vF,vF,vF,vF,vF,vF,vF,vF,vF,vF,vF,vF,vF,vF,vF,vF,vF,vF,vF,vF],vT],[]⟩
theorem kE28_ok:kE28.OK Tryz.prog:=KnE.run envK0 60 kE28 (by kernel_rfl)
def kE29:KnE:=⟨390,0,[.base (.string ⟨⟨[49]⟩⟩)],[],.tup [vI 1,.base .nilIface],[]⟩
theorem kE29_ok:kE29.OK Tryz.prog:=KnE.run envK0 60 kE29 (by kernel_rfl)
def kE30:KnE:=⟨390,0,[.base (.string ⟨⟨[51]⟩⟩)],[],.tup [vI 3,.base .nilIface],[]⟩
theorem kE30_ok:kE30.OK Tryz.prog:=KnE.run envK0 60 kE30 (by kernel_rfl)
def kE31:KnE:=⟨240,3,[.agg [vI 0,.base (.string ⟨⟨[]⟩⟩),.base (.string ⟨⟨[]⟩⟩),vI 0,vI 0,.osl 0 0 2 10]],[(0,[vI 3,vI 0,vI 1,.osl 1 0 1 6,vF,vU 0,vU 3221225986,vF,vU 0,vU 0,vI 6,vI 0,vI 1,.osl 2 0 1 6,vF,vU 0,vU 3221225987,vF,vU 0,vU 0]),(1,[vB 2,vB 0,vB 0,vB 0,vB 0,vB 101]),(2,[vB 2,vB 0,vB 0,vB 0,vB 0,vB 102])],.agg [vI 0,.base (.string ⟨⟨[]⟩⟩),.base (.string ⟨⟨[]⟩⟩),vI 0,vI 0,.osl 67 0 2 10],[(0,[vI 3,vI 0,vI 1,.osl 1 0 1 6,vF,vU 0,vU 3221225986,vF,vU 0,vU 0,vI 6,vI 0,vI 1,.osl 2 0 1 6,vF,vU 0,vU 3221225987,vF,vU 0,vU 0]),(1,[vB 2,vB 0,vB 0,vB 0,vB 0,vB 101]),(2,[vB 2,vB 0,vB 0,vB 0,vB 0,vB 102]),(67,[vI 3,vI 0,vI 1,.osl 371 0 1 6,vF,vU 0,vU 3221225986,vF,vU 0,vU 0,vI 6,vI 0,vI 1,.osl 659 0 1 6,vF,vU 0,vU 3221225987,vF,vU 0,vU 0]),(371,[vB 2,vB 0,vB 0,vB 0,vB 0,vB 101]),(659,[vB 2,vB 0,vB 0,vB 0,vB 0,vB 102])]⟩
theorem kE31_ok:kE31.OK Tryz.prog:=KnE.run envK0 60 kE31 (by kernel_rfl)
def kE32:KnE:=⟨363,3,[.osl 0 0 2 10,vI 0,vI 2,.base (.func (.func 243) #[] #[])],[(0,[vI 3,vI 0,vI 1,.osl 1 0 1 6,vF,vU 0,vU 3221225986,vF,vU 0,vU 0,vI 6,vI 0,vI 1,.osl 2 0 1 6,vF,vU 0,vU 3221225987,vF,vU 0,vU 0]),(1,[vB 2,vB 0,vB 0,vB 0,vB 0,vB 101]),(2,[vB 2,vB 0,vB 0,vB 0,vB 0,vB 102])],.tup [],[(0,[vI 3,vI 0,vI 1,.osl 1 0 1 6,vF,vU 0,vU 3221225986,vF,vU 0,vU 0,vI 6,vI 0,vI 1,.osl 2 0 1 6,vF,vU 0,vU 3221225987,vF,vU 0,vU 0]),(1,[vB 2,vB 0,vB 0,vB 0,vB 0,vB 101]),(2,[vB 2,vB 0,vB 0,vB 0,vB 0,vB 102])]⟩
theorem kE32_ok:kE32.OK Tryz.prog:=KnE.run envK0 60 kE32 (by kernel_rfl)
def kE33:KnE:=⟨90,0,[.agg [vF,vU 0,vU 3221225984]],[],.oslt 1456 0 4 1 5,[(1456,[vB 192,vB 0,vB 2,vB 0])]⟩
theorem kE33_ok:kE33.OK Tryz.prog:=KnE.run envK0 60 kE33 (by kernel_rfl)
def kE34:KnE:=⟨91,1,[.oslt 0 0 4 1 5],[(0,[vB 192,vB 0,vB 2,vB 0])],.tup [.agg [vF,vU 0,vU 3221225984],vI 0],[(0,[vB 192,vB 0,vB 2,vB 0])]⟩
theorem kE34_ok:kE34.OK Tryz.prog:=KnE.run envK0 60 kE34 (by kernel_rfl)
def kE35:KnE:=⟨39,0,[.agg [vT,vU 2306139568115548160,vU 0],vI 64],[],.tup [.agg [vT,vU 2306139568115548160,vU 0,vI 64],vI 0],[]⟩
theorem kE35_ok:kE35.OK Tryz.prog:=KnE.run envK0 60 kE35 (by kernel_rfl)
def kE36:KnE:=⟨91,1,[.oslt 0 0 4 1 5],[(0,[vB 192,vB 0,vB 2,vB 255])],.tup [.agg [vF,vU 0,vU 3221226239],vI 0],[(0,[vB 192,vB 0,vB 2,vB 255])]⟩
theorem kE36_ok:kE36.OK Tryz.prog:=KnE.run envK0 60 kE36 (by kernel_rfl)
def kE37:KnE:=⟨190,0,[.agg [vI 1,vB 2,vB 0,vB 0,vB 0,vB 0,vB 101,vF,vU 0,vU 3221225986,vB 0,vB 0,vB 0,vB 0,vB 0,vB 0,vF,vU 0,vU 3221225987]],[],vT,[]⟩
theorem kE37_ok:kE37.OK Tryz.prog:=KnE.run envK0 60 kE37 (by kernel_rfl)
def kE38:KnE:=⟨324,1,[.osl 0 14 4 1],[(0,[vB 0,vB 1,vB 8,vB 0,vB 6,vB 4,vB 0,vB 1,vB 2,vB 0,vB 0,vB 0,vB 0,vB 101,vB 192,vB 0,vB 2,vB 2,vB 0,vB 0,vB 0,vB 0,vB 0,vB 0,vB 192,vB 0,vB 2,vB 3])],.tup [.agg [vF,vU 0,vU 3221225986],vI 0],[(0,[vB 0,vB 1,vB 8,vB 0,vB 6,vB 4,vB 0,vB 1,vB 2,vB 0,vB 0,vB 0,vB 0,vB 101,vB 192,vB 0,vB 2,vB 2,vB 0,vB 0,vB 0,vB 0,vB 0,vB 0,vB 192,vB 0,vB 2,vB 3])]⟩
theorem kE38_ok:kE38.OK Tryz.prog:=KnE.run envK0 60 kE38 (by kernel_rfl)
def kE39:KnE:=⟨324,1,[.osl 0 24 4 1],[(0,[vB 0,vB 1,vB 8,vB 0,vB 6,vB 4,vB 0,vB 1,vB 2,vB 0,vB 0,vB 0,vB 0,vB 101,vB 192,vB 0,vB 2,vB 2,vB 0,vB 0,vB 0,vB 0,vB 0,vB 0,vB 192,vB 0,vB 2,vB 3])],.tup [.agg [vF,vU 0,vU 3221225987],vI 0],[(0,[vB 0,vB 1,vB 8,vB 0,vB 6,vB 4,vB 0,vB 1,vB 2,vB 0,vB 0,vB 0,vB 0,vB 101,vB 192,vB 0,vB 2,vB 2,vB 0,vB 0,vB 0,vB 0,vB 0,vB 0,vB 192,vB 0,vB 2,vB 3])]⟩
theorem kE39_ok:kE39.OK Tryz.prog:=KnE.run envK0 60 kE39 (by kernel_rfl)
def kL1:List KnE:=[kE2,kE3,kE4,kE5,kE6,kE7,kE8,kE9,kE10,kE11,kE12,kE13,kE14,kE15,kE16,kE17,kE18,kE19,kE20,kE21,kE22,kE23,kE24,kE25,kE26,kE27,kE28,kE29,kE30,kE31,kE32,kE33,kE34,kE35,kE36,kE37,kE38,kE39]
theorem kL1_ok:∀ e,e∈kL1→e.OK Tryz.prog:=by
 intro e h
 simp only [kL1,List.mem_cons,List.not_mem_nil,or_false] at h
 rcases h with rfl|rfl|rfl|rfl|rfl|rfl|rfl|rfl|rfl|rfl|rfl|rfl|rfl|rfl|rfl|rfl|rfl|rfl|rfl|rfl|rfl|rfl|rfl|rfl|rfl|rfl|rfl|rfl|rfl|rfl|rfl|rfl|rfl|rfl|rfl|rfl|rfl|rfl
 ·exact kE2_ok
 ·exact kE3_ok
 ·exact kE4_ok
 ·exact kE5_ok
 ·exact kE6_ok
 ·exact kE7_ok
 ·exact kE8_ok
 ·exact kE9_ok
 ·exact kE10_ok
 ·exact kE11_ok
 ·exact kE12_ok
 ·exact kE13_ok
 ·exact kE14_ok
 ·exact kE15_ok
 ·exact kE16_ok
 ·exact kE17_ok
 ·exact kE18_ok
 ·exact kE19_ok
 ·exact kE20_ok
 ·exact kE21_ok
 ·exact kE22_ok
 ·exact kE23_ok
 ·exact kE24_ok
 ·exact kE25_ok
 ·exact kE26_ok
 ·exact kE27_ok
 ·exact kE28_ok
 ·exact kE29_ok
 ·exact kE30_ok
 ·exact kE31_ok
 ·exact kE32_ok
 ·exact kE33_ok
 ·exact kE34_ok
 ·exact kE35_ok
 ·exact kE36_ok
 ·exact kE37_ok
 ·exact kE38_ok
 ·exact kE39_ok
def kR1:Rec:=knO knT (knL kL1)
theorem kR1_ok:RecOK Tryz.prog kR1:=knO_ok knT_ok (knL_ok kL1_ok)
noncomputable def envK1:Env Tryz.prog:=envK kR1 kR1_ok
def kE40:KnE:=⟨221,5,[.agg [vF,vU 0,vU 3221225984,vI 24,vT,vU 2306139568115548160,vU 0,vI 64,.nils,.osl 0 0 2 6]],[(0,[vI 1,.base (.string ⟨⟨[97]⟩⟩),.base (.string ⟨⟨[]⟩⟩),vI 0,vI 0,.osl 1 0 1 10,vI 8,.base (.string ⟨⟨[98,45,50]⟩⟩),.base (.string ⟨⟨[]⟩⟩),vI 0,vI 0,.osl 2 0 1 10]),(1,[vI 3,vI 0,vI 1,.osl 3 0 1 6,vF,vU 0,vU 3221225986,vF,vU 0,vU 0]),(2,[vI 6,vI 0,vI 1,.osl 4 0 1 6,vF,vU 0,vU 3221225987,vF,vU 0,vU 0]),(3,[vB 2,vB 0,vB 0,vB 0,vB 0,vB 101]),(4,[vB 2,vB 0,vB 0,vB 0,vB 0,vB 102])],vT,[(0,[vI 1,.base (.string ⟨⟨[97]⟩⟩),.base (.string ⟨⟨[]⟩⟩),vI 0,vI 0,.osl 1 0 1 10,vI 8,.base (.string ⟨⟨[98,45,50]⟩⟩),.base (.string ⟨⟨[]⟩⟩),vI 0,vI 0,.osl 2 0 1 10]),(1,[vI 3,vI 0,vI 1,.osl 3 0 1 6,vF,vU 0,vU 3221225986,vF,vU 0,vU 0]),(2,[vI 6,vI 0,vI 1,.osl 4 0 1 6,vF,vU 0,vU 3221225987,vF,vU 0,vU 0]),(3,[vB 2,vB 0,vB 0,vB 0,vB 0,vB 101]),(4,[vB 2,vB 0,vB 0,vB 0,vB 0,vB 102])]⟩
theorem kE40_ok:kE40.OK Tryz.prog:=KnE.run envK1 60 kE40 (by kernel_rfl)
def kE41:KnE:=⟨42,0,[.agg [vF,vU 0,vU 3221225984,vI 24]],[],vT,[]⟩
theorem kE41_ok:kE41.OK Tryz.prog:=KnE.run envK1 60 kE41 (by kernel_rfl)
def kE42:KnE:=⟨42,0,[.agg [vT,vU 2306139568115548160,vU 0,vI 64]],[],vT,[]⟩
theorem kE42_ok:kE42.OK Tryz.prog:=KnE.run envK1 60 kE42 (by kernel_rfl)
def kE43:KnE:=⟨344,0,[.base (.string ⟨⟨[97]⟩⟩),.base (.string ⟨⟨[97,98,99,100,101,102,103,104,105,106,107,108,109,110,111,112,113,114,115,116,117,118,119,120,121,122,65,66,67,68,69,70,71,72,73,74,75,76,77,78,79,80,81,82,83,84,85,86,87,88,89,90,48,49,50,51,52,53,54,55,56,57,45,58]⟩⟩)],[],.base (.string ⟨⟨[]⟩⟩),[]⟩
theorem kE43_ok:kE43.OK Tryz.prog:=KnE.run envK1 60 kE43 (by kernel_rfl)
def kE44:KnE:=⟨295,0,[.base (.string ⟨⟨[98,45,50]⟩⟩)],[],vT,[]⟩
theorem kE44_ok:kE44.OK Tryz.prog:=KnE.run envK1 60 kE44 (by kernel_rfl)
def kE45:KnE:=⟨241,5,[.agg [vF,vU 0,vU 3221225984,vI 24,vT,vU 2306139568115548160,vU 0,vI 64,.nils,.osl 0 0 2 6]],[(0,[vI 1,.base (.string ⟨⟨[97]⟩⟩),.base (.string ⟨⟨[]⟩⟩),vI 0,vI 0,.osl 1 0 1 10,vI 8,.base (.string ⟨⟨[98,45,50]⟩⟩),.base (.string ⟨⟨[]⟩⟩),vI 0,vI 0,.osl 2 0 1 10]),(1,[vI 3,vI 0,vI 1,.osl 3 0 1 6,vF,vU 0,vU 3221225986,vF,vU 0,vU 0]),(2,[vI 6,vI 0,vI 1,.osl 4 0 1 6,vF,vU 0,vU 3221225987,vF,vU 0,vU 0]),(3,[vB 2,vB 0,vB 0,vB 0,vB 0,vB 101]),(4,[vB 2,vB 0,vB 0,vB 0,vB 0,vB 102])],.osl 437 0 2 10,[(0,[vI 1,.base (.string ⟨⟨[97]⟩⟩),.base (.string ⟨⟨[]⟩⟩),vI 0,vI 0,.osl 1 0 1 10,vI 8,.base (.string ⟨⟨[98,45,50]⟩⟩),.base (.string ⟨⟨[]⟩⟩),vI 0,vI 0,.osl 2 0 1 10]),(1,[vI 3,vI 0,vI 1,.osl 3 0 1 6,vF,vU 0,vU 3221225986,vF,vU 0,vU 0]),(2,[vI 6,vI 0,vI 1,.osl 4 0 1 6,vF,vU 0,vU 3221225987,vF,vU 0,vU 0]),(3,[vB 2,vB 0,vB 0,vB 0,vB 0,vB 101]),(4,[vB 2,vB 0,vB 0,vB 0,vB 0,vB 102]),(437,[vI 3,vI 0,vI 1,.osl 3 0 1 6,vF,vU 0,vU 3221225986,vF,vU 0,vU 0,vI 6,vI 0,vI 1,.osl 4 0 1 6,vF,vU 0,vU 3221225987,vF,vU 0,vU 0])]⟩
theorem kE45_ok:kE45.OK Tryz.prog:=KnE.run envK1 60 kE45 (by kernel_rfl)
def kE46:KnE:=⟨352,0,[vI 192,vI 10],[],.base (.string ⟨⟨[49,57,50]⟩⟩),[]⟩
theorem kE46_ok:kE46.OK Tryz.prog:=KnE.run envK1 60 kE46 (by kernel_rfl)
def kE47:KnE:=⟨227,1,[.osl 0 0 4 1,.base (.string ⟨⟨[46]⟩⟩)],[(0,[.base (.string ⟨⟨[49,57,50]⟩⟩),.base (.string ⟨⟨[48]⟩⟩),.base (.string ⟨⟨[50]⟩⟩),.base (.string ⟨⟨[48]⟩⟩)])],.base (.string ⟨⟨[49,57,50,46,48,46,50,46,48]⟩⟩),[(0,[.base (.string ⟨⟨[49,57,50]⟩⟩),.base (.string ⟨⟨[48]⟩⟩),.base (.string ⟨⟨[50]⟩⟩),.base (.string ⟨⟨[48]⟩⟩)])]⟩
theorem kE47_ok:kE47.OK Tryz.prog:=KnE.run envK1 60 kE47 (by kernel_rfl)
def kE48:KnE:=⟨227,1,[.osl 0 0 2 1,.base (.string ⟨⟨[58]⟩⟩)],[(0,[.base (.string ⟨⟨[50,48,48,49]⟩⟩),.base (.string ⟨⟨[100,98,56]⟩⟩)])],.base (.string ⟨⟨[50,48,48,49,58,100,98,56]⟩⟩),[(0,[.base (.string ⟨⟨[50,48,48,49]⟩⟩),.base (.string ⟨⟨[100,98,56]⟩⟩)])]⟩
theorem kE48_ok:kE48.OK Tryz.prog:=KnE.run envK1 60 kE48 (by kernel_rfl)
def kE49:KnE:=⟨227,1,[.osl 0 0 6 1,.base (.string ⟨⟨[58]⟩⟩)],[(0,[.base (.string ⟨⟨[48,50]⟩⟩),.base (.string ⟨⟨[48,48]⟩⟩),.base (.string ⟨⟨[48,48]⟩⟩),.base (.string ⟨⟨[48,48]⟩⟩),.base (.string ⟨⟨[48,48]⟩⟩),.base (.string ⟨⟨[54,53]⟩⟩)])],.base (.string ⟨⟨[48,50,58,48,48,58,48,48,58,48,48,58,48,48,58,54,53]⟩⟩),[(0,[.base (.string ⟨⟨[48,50]⟩⟩),.base (.string ⟨⟨[48,48]⟩⟩),.base (.string ⟨⟨[48,48]⟩⟩),.base (.string ⟨⟨[48,48]⟩⟩),.base (.string ⟨⟨[48,48]⟩⟩),.base (.string ⟨⟨[54,53]⟩⟩)])]⟩
theorem kE49_ok:kE49.OK Tryz.prog:=KnE.run envK1 60 kE49 (by kernel_rfl)
def kE50:KnE:=⟨227,1,[.osl 0 0 4 1,.base (.string ⟨⟨[46]⟩⟩)],[(0,[.base (.string ⟨⟨[49,57,50]⟩⟩),.base (.string ⟨⟨[48]⟩⟩),.base (.string ⟨⟨[50]⟩⟩),.base (.string ⟨⟨[50]⟩⟩)])],.base (.string ⟨⟨[49,57,50,46,48,46,50,46,50]⟩⟩),[(0,[.base (.string ⟨⟨[49,57,50]⟩⟩),.base (.string ⟨⟨[48]⟩⟩),.base (.string ⟨⟨[50]⟩⟩),.base (.string ⟨⟨[50]⟩⟩)])]⟩
theorem kE50_ok:kE50.OK Tryz.prog:=KnE.run envK1 60 kE50 (by kernel_rfl)
def kE51:KnE:=⟨227,1,[.osl 0 0 6 1,.base (.string ⟨⟨[58]⟩⟩)],[(0,[.base (.string ⟨⟨[48,50]⟩⟩),.base (.string ⟨⟨[48,48]⟩⟩),.base (.string ⟨⟨[48,48]⟩⟩),.base (.string ⟨⟨[48,48]⟩⟩),.base (.string ⟨⟨[48,48]⟩⟩),.base (.string ⟨⟨[54,54]⟩⟩)])],.base (.string ⟨⟨[48,50,58,48,48,58,48,48,58,48,48,58,48,48,58,54,54]⟩⟩),[(0,[.base (.string ⟨⟨[48,50]⟩⟩),.base (.string ⟨⟨[48,48]⟩⟩),.base (.string ⟨⟨[48,48]⟩⟩),.base (.string ⟨⟨[48,48]⟩⟩),.base (.string ⟨⟨[48,48]⟩⟩),.base (.string ⟨⟨[54,54]⟩⟩)])]⟩
theorem kE51_ok:kE51.OK Tryz.prog:=KnE.run envK1 60 kE51 (by kernel_rfl)
def kE52:KnE:=⟨227,1,[.osl 0 0 4 1,.base (.string ⟨⟨[46]⟩⟩)],[(0,[.base (.string ⟨⟨[49,57,50]⟩⟩),.base (.string ⟨⟨[48]⟩⟩),.base (.string ⟨⟨[50]⟩⟩),.base (.string ⟨⟨[51]⟩⟩)])],.base (.string ⟨⟨[49,57,50,46,48,46,50,46,51]⟩⟩),[(0,[.base (.string ⟨⟨[49,57,50]⟩⟩),.base (.string ⟨⟨[48]⟩⟩),.base (.string ⟨⟨[50]⟩⟩),.base (.string ⟨⟨[51]⟩⟩)])]⟩
theorem kE52_ok:kE52.OK Tryz.prog:=KnE.run envK1 60 kE52 (by kernel_rfl)
def kE53:KnE:=⟨30,0,[.agg [vF,vU 0,vU 3221225984,vI 24]],[],.agg [vF,vU 0,vU 3221226239],[]⟩
theorem kE53_ok:kE53.OK Tryz.prog:=KnE.run envK1 60 kE53 (by kernel_rfl)
def kE54:KnE:=⟨253,1,[.osl 0 0 28 1],[(0,[vB 0,vB 1,vB 8,vB 0,vB 6,vB 4,vB 0,vB 1,vB 2,vB 0,vB 0,vB 0,vB 0,vB 101,vB 192,vB 0,vB 2,vB 2,vB 0,vB 0,vB 0,vB 0,vB 0,vB 0,vB 192,vB 0,vB 2,vB 3])],.tup [.agg [vI 1,vB 2,vB 0,vB 0,vB 0,vB 0,vB 101,vF,vU 0,vU 3221225986,vB 0,vB 0,vB 0,vB 0,vB 0,vB 0,vF,vU 0,vU 3221225987],vI 0],[(0,[vB 0,vB 1,vB 8,vB 0,vB 6,vB 4,vB 0,vB 1,vB 2,vB 0,vB 0,vB 0,vB 0,vB 101,vB 192,vB 0,vB 2,vB 2,vB 0,vB 0,vB 0,vB 0,vB 0,vB 0,vB 192,vB 0,vB 2,vB 3])]⟩
theorem kE54_ok:kE54.OK Tryz.prog:=KnE.run envK1 60 kE54 (by kernel_rfl)
def kL2:List KnE:=[kE40,kE41,kE42,kE43,kE44,kE45,kE46,kE47,kE48,kE49,kE50,kE51,kE52,kE53,kE54]
theorem kL2_ok:∀ e,e∈kL2→e.OK Tryz.prog:=by
 intro e h
 simp only [kL2,List.mem_cons,List.not_mem_nil,or_false] at h
 rcases h with rfl|rfl|rfl|rfl|rfl|rfl|rfl|rfl|rfl|rfl|rfl|rfl|rfl|rfl|rfl
 ·exact kE40_ok
 ·exact kE41_ok
 ·exact kE42_ok
 ·exact kE43_ok
 ·exact kE44_ok
 ·exact kE45_ok
 ·exact kE46_ok
 ·exact kE47_ok
 ·exact kE48_ok
 ·exact kE49_ok
 ·exact kE50_ok
 ·exact kE51_ok
 ·exact kE52_ok
 ·exact kE53_ok
 ·exact kE54_ok
def kR2:Rec:=knO kR1 (knL kL2)
theorem kR2_ok:RecOK Tryz.prog kR2:=knO_ok kR1_ok (knL_ok kL2_ok)
noncomputable def envK2:Env Tryz.prog:=envK kR2 kR2_ok
def kE55:KnE:=⟨222,5,[.agg [vF,vU 0,vU 3221225984,vI 24,vT,vU 2306139568115548160,vU 0,vI 64,.nils,.osl 0 0 2 6]],[(0,[vI 1,.base (.string ⟨⟨[97]⟩⟩),.base (.string ⟨⟨[]⟩⟩),vI 0,vI 0,.osl 1 0 1 10,vI 8,.base (.string ⟨⟨[98,45,50]⟩⟩),.base (.string ⟨⟨[]⟩⟩),vI 0,vI 0,.osl 2 0 1 10]),(1,[vI 3,vI 0,vI 1,.osl 3 0 1 6,vF,vU 0,vU 3221225986,vF,vU 0,vU 0]),(2,[vI 6,vI 0,vI 1,.osl 4 0 1 6,vF,vU 0,vU 3221225987,vF,vU 0,vU 0]),(3,[vB 2,vB 0,vB 0,vB 0,vB 0,vB 101]),(4,[vB 2,vB 0,vB 0,vB 0,vB 0,vB 102])],vT,[(0,[vI 1,.base (.string ⟨⟨[97]⟩⟩),.base (.string ⟨⟨[]⟩⟩),vI 0,vI 0,.osl 1 0 1 10,vI 8,.base (.string ⟨⟨[98,45,50]⟩⟩),.base (.string ⟨⟨[]⟩⟩),vI 0,vI 0,.osl 2 0 1 10]),(1,[vI 3,vI 0,vI 1,.osl 3 0 1 6,vF,vU 0,vU 3221225986,vF,vU 0,vU 0]),(2,[vI 6,vI 0,vI 1,.osl 4 0 1 6,vF,vU 0,vU 3221225987,vF,vU 0,vU 0]),(3,[vB 2,vB 0,vB 0,vB 0,vB 0,vB 101]),(4,[vB 2,vB 0,vB 0,vB 0,vB 0,vB 102])]⟩
theorem kE55_ok:kE55.OK Tryz.prog:=KnE.run envK2 60 kE55 (by kernel_rfl)
def kE56:KnE:=⟨46,0,[.agg [vF,vU 0,vU 3221225984,vI 24]],[],.agg [vF,vU 0,vU 3221226239],[]⟩
theorem kE56_ok:kE56.OK Tryz.prog:=KnE.run envK2 60 kE56 (by kernel_rfl)
def kE57:KnE:=⟨305,0,[.agg [vF,vU 0,vU 3221225984]],[],.base (.string ⟨⟨[49,57,50,46,48,46,50,46,48]⟩⟩),[]⟩
theorem kE57_ok:kE57.OK Tryz.prog:=KnE.run envK2 60 kE57 (by kernel_rfl)
def kE58:KnE:=⟨350,1,[.osl 0 0 2 1],[(0,[vU 8193,vU 3512,vU 0,vU 0,vU 0,vU 0,vU 0,vU 0])],.base (.string ⟨⟨[50,48,48,49,58,100,98,56]⟩⟩),[(0,[vU 8193,vU 3512,vU 0,vU 0,vU 0,vU 0,vU 0,vU 0])]⟩
theorem kE58_ok:kE58.OK Tryz.prog:=KnE.run envK2 60 kE58 (by kernel_rfl)
def kE59:KnE:=⟨232,0,[.agg [vB 2,vB 0,vB 0,vB 0,vB 0,vB 101]],[],.base (.string ⟨⟨[48,50,58,48,48,58,48,48,58,48,48,58,48,48,58,54,53]⟩⟩),[]⟩
theorem kE59_ok:kE59.OK Tryz.prog:=KnE.run envK2 60 kE59 (by kernel_rfl)
def kE60:KnE:=⟨305,0,[.agg [vF,vU 0,vU 3221225986]],[],.base (.string ⟨⟨[49,57,50,46,48,46,50,46,50]⟩⟩),[]⟩
theorem kE60_ok:kE60.OK Tryz.prog:=KnE.run envK2 60 kE60 (by kernel_rfl)
def kE61:KnE:=⟨232,0,[.agg [vB 2,vB 0,vB 0,vB 0,vB 0,vB 102]],[],.base (.string ⟨⟨[48,50,58,48,48,58,48,48,58,48,48,58,48,48,58,54,54]⟩⟩),[]⟩
theorem kE61_ok:kE61.OK Tryz.prog:=KnE.run envK2 60 kE61 (by kernel_rfl)
def kE62:KnE:=⟨305,0,[.agg [vF,vU 0,vU 3221225987]],[],.base (.string ⟨⟨[49,57,50,46,48,46,50,46,51]⟩⟩),[]⟩
theorem kE62_ok:kE62.OK Tryz.prog:=KnE.run envK2 60 kE62 (by kernel_rfl)
def kE63:KnE:=⟨96,5,[.agg [vF,vU 0,vU 3221225984,vI 24,vT,vU 2306139568115548160,vU 0,vI 64,.nils,.osl 0 0 2 6]],[(0,[vI 1,.base (.string ⟨⟨[97]⟩⟩),.base (.string ⟨⟨[]⟩⟩),vI 0,vI 0,.osl 1 0 1 10,vI 8,.base (.string ⟨⟨[98,45,50]⟩⟩),.base (.string ⟨⟨[]⟩⟩),vI 0,vI 0,.osl 2 0 1 10]),(1,[vI 3,vI 0,vI 1,.osl 3 0 1 6,vF,vU 0,vU 3221225986,vF,vU 0,vU 0]),(2,[vI 6,vI 0,vI 1,.osl 4 0 1 6,vF,vU 0,vU 3221225987,vF,vU 0,vU 0]),(3,[vB 2,vB 0,vB 0,vB 0,vB 0,vB 101]),(4,[vB 2,vB 0,vB 0,vB 0,vB 0,vB 102])],vI 0,[(0,[vI 1,.base (.string ⟨⟨[97]⟩⟩),.base (.string ⟨⟨[]⟩⟩),vI 0,vI 0,.osl 1 0 1 10,vI 8,.base (.string ⟨⟨[98,45,50]⟩⟩),.base (.string ⟨⟨[]⟩⟩),vI 0,vI 0,.osl 2 0 1 10]),(1,[vI 3,vI 0,vI 1,.osl 3 0 1 6,vF,vU 0,vU 3221225986,vF,vU 0,vU 0]),(2,[vI 6,vI 0,vI 1,.osl 4 0 1 6,vF,vU 0,vU 3221225987,vF,vU 0,vU 0]),(3,[vB 2,vB 0,vB 0,vB 0,vB 0,vB 101]),(4,[vB 2,vB 0,vB 0,vB 0,vB 0,vB 102])]⟩
theorem kE63_ok:kE63.OK Tryz.prog:=KnE.run envK2 60 kE63 (by kernel_rfl)
def kL3:List KnE:=[kE55,kE56,kE57,kE58,kE59,kE60,kE61,kE62,kE63]
theorem kL3_ok:∀ e,e∈kL3→e.OK Tryz.prog:=by
 intro e h
 simp only [kL3,List.mem_cons,List.not_mem_nil,or_false] at h
 rcases h with rfl|rfl|rfl|rfl|rfl|rfl|rfl|rfl|rfl
 ·exact kE55_ok
 ·exact kE56_ok
 ·exact kE57_ok
 ·exact kE58_ok
 ·exact kE59_ok
 ·exact kE60_ok
 ·exact kE61_ok
 ·exact kE62_ok
 ·exact kE63_ok
def kR3:Rec:=knO kR2 (knL kL3)
theorem kR3_ok:RecOK Tryz.prog kR3:=knO_ok kR2_ok (knL_ok kL3_ok)
noncomputable def envK3:Env Tryz.prog:=envK kR3 kR3_ok
def kE64:KnE:=⟨223,5,[.agg [vF,vU 0,vU 3221225984,vI 24,vT,vU 2306139568115548160,vU 0,vI 64,.nils,.osl 0 0 2 6]],[(0,[vI 1,.base (.string ⟨⟨[97]⟩⟩),.base (.string ⟨⟨[]⟩⟩),vI 0,vI 0,.osl 1 0 1 10,vI 8,.base (.string ⟨⟨[98,45,50]⟩⟩),.base (.string ⟨⟨[]⟩⟩),vI 0,vI 0,.osl 2 0 1 10]),(1,[vI 3,vI 0,vI 1,.osl 3 0 1 6,vF,vU 0,vU 3221225986,vF,vU 0,vU 0]),(2,[vI 6,vI 0,vI 1,.osl 4 0 1 6,vF,vU 0,vU 3221225987,vF,vU 0,vU 0]),(3,[vB 2,vB 0,vB 0,vB 0,vB 0,vB 101]),(4,[vB 2,vB 0,vB 0,vB 0,vB 0,vB 102])],vT,[(0,[vI 1,.base (.string ⟨⟨[97]⟩⟩),.base (.string ⟨⟨[]⟩⟩),vI 0,vI 0,.osl 1 0 1 10,vI 8,.base (.string ⟨⟨[98,45,50]⟩⟩),.base (.string ⟨⟨[]⟩⟩),vI 0,vI 0,.osl 2 0 1 10]),(1,[vI 3,vI 0,vI 1,.osl 3 0 1 6,vF,vU 0,vU 3221225986,vF,vU 0,vU 0]),(2,[vI 6,vI 0,vI 1,.osl 4 0 1 6,vF,vU 0,vU 3221225987,vF,vU 0,vU 0]),(3,[vB 2,vB 0,vB 0,vB 0,vB 0,vB 101]),(4,[vB 2,vB 0,vB 0,vB 0,vB 0,vB 102])]⟩
theorem kE64_ok:kE64.OK Tryz.prog:=KnE.run envK3 60 kE64 (by kernel_rfl)
def kE65:KnE:=⟨228,0,[.agg [vF,vU 0,vU 3221225984,vI 24]],[],.base (.string ⟨⟨[49,57,50,46,48,46,50,46,48,47,50,52]⟩⟩),[]⟩
theorem kE65_ok:kE65.OK Tryz.prog:=KnE.run envK3 60 kE65 (by kernel_rfl)
def kE66:KnE:=⟨305,0,[.agg [vT,vU 2306139568115548160,vU 0]],[],.base (.string ⟨⟨[50,48,48,49,58,100,98,56,58,58]⟩⟩),[]⟩
theorem kE66_ok:kE66.OK Tryz.prog:=KnE.run envK3 60 kE66 (by kernel_rfl)
def kE67:KnE:=⟨239,2,[.own 0 0],[(0,[.osl 1 1 6 1,vF]),(1,[.base (.string ⟨⟨[112,111,114,116]⟩⟩),.base (.string ⟨⟨[51]⟩⟩),.base (.string ⟨⟨[48]⟩⟩),.base (.string ⟨⟨[49]⟩⟩),.base (.string ⟨⟨[48,50,58,48,48,58,48,48,58,48,48,58,48,48,58,54,53]⟩⟩),.base (.string ⟨⟨[49,57,50,46,48,46,50,46,50]⟩⟩),.base (.string ⟨⟨[45]⟩⟩)])],.agg [vI 3,vI 0,vI 1,.osl 690 0 1 6,vF,vU 0,vU 3221225986,vF,vU 0,vU 0],[(0,[.osl 1 7 0 1,vF]),(1,[.base (.string ⟨⟨[112,111,114,116]⟩⟩),.base (.string ⟨⟨[51]⟩⟩),.base (.string ⟨⟨[48]⟩⟩),.base (.string ⟨⟨[49]⟩⟩),.base (.string ⟨⟨[48,50,58,48,48,58,48,48,58,48,48,58,48,48,58,54,53]⟩⟩),.base (.string ⟨⟨[49,57,50,46,48,46,50,46,50]⟩⟩),.base (.string ⟨⟨[45]⟩⟩)]),(690,[vB 2,vB 0,vB 0,vB 0,vB 0,vB 101])]⟩
theorem kE67_ok:kE67.OK Tryz.prog:=KnE.run envK3 60 kE67 (by kernel_rfl)
def kE68:KnE:=⟨239,2,[.own 0 0],[(0,[.osl 1 1 6 1,vF]),(1,[.base (.string ⟨⟨[112,111,114,116]⟩⟩),.base (.string ⟨⟨[54]⟩⟩),.base (.string ⟨⟨[48]⟩⟩),.base (.string ⟨⟨[49]⟩⟩),.base (.string ⟨⟨[48,50,58,48,48,58,48,48,58,48,48,58,48,48,58,54,54]⟩⟩),.base (.string ⟨⟨[49,57,50,46,48,46,50,46,51]⟩⟩),.base (.string ⟨⟨[45]⟩⟩)])],.agg [vI 6,vI 0,vI 1,.osl 690 0 1 6,vF,vU 0,vU 3221225987,vF,vU 0,vU 0],[(0,[.osl 1 7 0 1,vF]),(1,[.base (.string ⟨⟨[112,111,114,116]⟩⟩),.base (.string ⟨⟨[54]⟩⟩),.base (.string ⟨⟨[48]⟩⟩),.base (.string ⟨⟨[49]⟩⟩),.base (.string ⟨⟨[48,50,58,48,48,58,48,48,58,48,48,58,48,48,58,54,54]⟩⟩),.base (.string ⟨⟨[49,57,50,46,48,46,50,46,51]⟩⟩),.base (.string ⟨⟨[45]⟩⟩)]),(690,[vB 2,vB 0,vB 0,vB 0,vB 0,vB 102])]⟩
theorem kE68_ok:kE68.OK Tryz.prog:=KnE.run envK3 60 kE68 (by kernel_rfl)
def kL4:List KnE:=[kE64,kE65,kE66,kE67,kE68]
theorem kL4_ok:∀ e,e∈kL4→e.OK Tryz.prog:=by
 intro e h
 simp only [kL4,List.mem_cons,List.not_mem_nil,or_false] at h
 rcases h with rfl|rfl|rfl|rfl|rfl
 ·exact kE64_ok
 ·exact kE65_ok
 ·exact kE66_ok
 ·exact kE67_ok
 ·exact kE68_ok
def kR4:Rec:=knO kR3 (knL kL4)
theorem kR4_ok:RecOK Tryz.prog kR4:=knO_ok kR3_ok (knL_ok kL4_ok)
noncomputable def envK4:Env Tryz.prog:=envK kR4 kR4_ok
def kE69:KnE:=⟨155,5,[.agg [vF,vU 0,vU 3221225984,vI 24,vT,vU 2306139568115548160,vU 0,vI 64,.nils,.osl 0 0 2 6]],[(0,[vI 1,.base (.string ⟨⟨[97]⟩⟩),.base (.string ⟨⟨[]⟩⟩),vI 0,vI 0,.osl 1 0 1 10,vI 8,.base (.string ⟨⟨[98,45,50]⟩⟩),.base (.string ⟨⟨[]⟩⟩),vI 0,vI 0,.osl 2 0 1 10]),(1,[vI 3,vI 0,vI 1,.osl 3 0 1 6,vF,vU 0,vU 3221225986,vF,vU 0,vU 0]),(2,[vI 6,vI 0,vI 1,.osl 4 0 1 6,vF,vU 0,vU 3221225987,vF,vU 0,vU 0]),(3,[vB 2,vB 0,vB 0,vB 0,vB 0,vB 101]),(4,[vB 2,vB 0,vB 0,vB 0,vB 0,vB 102])],vI 0,[(0,[vI 1,.base (.string ⟨⟨[97]⟩⟩),.base (.string ⟨⟨[]⟩⟩),vI 0,vI 0,.osl 1 0 1 10,vI 8,.base (.string ⟨⟨[98,45,50]⟩⟩),.base (.string ⟨⟨[]⟩⟩),vI 0,vI 0,.osl 2 0 1 10]),(1,[vI 3,vI 0,vI 1,.osl 3 0 1 6,vF,vU 0,vU 3221225986,vF,vU 0,vU 0]),(2,[vI 6,vI 0,vI 1,.osl 4 0 1 6,vF,vU 0,vU 3221225987,vF,vU 0,vU 0]),(3,[vB 2,vB 0,vB 0,vB 0,vB 0,vB 101]),(4,[vB 2,vB 0,vB 0,vB 0,vB 0,vB 102])]⟩
theorem kE69_ok:kE69.OK Tryz.prog:=KnE.run envK4 60 kE69 (by kernel_rfl)
def kE70:KnE:=⟨228,0,[.agg [vT,vU 2306139568115548160,vU 0,vI 64]],[],.base (.string ⟨⟨[50,48,48,49,58,100,98,56,58,58,47,54,52]⟩⟩),[]⟩
theorem kE70_ok:kE70.OK Tryz.prog:=KnE.run envK4 60 kE70 (by kernel_rfl)
def kL5:List KnE:=[kE69,kE70]
theorem kL5_ok:∀ e,e∈kL5→e.OK Tryz.prog:=by
 intro e h
 simp only [kL5,List.mem_cons,List.not_mem_nil,or_false] at h
 rcases h with rfl|rfl
 ·exact kE69_ok
 ·exact kE70_ok
def kR5:Rec:=knO kR4 (knL kL5)
theorem kR5_ok:RecOK Tryz.prog kR5:=knO_ok kR4_ok (knL_ok kL5_ok)
noncomputable def envK5:Env Tryz.prog:=envK kR5 kR5_ok
def kE71:KnE:=⟨156,5,[.agg [vF,vU 0,vU 3221225984,vI 24,vT,vU 2306139568115548160,vU 0,vI 64,.nils,.osl 0 0 2 6]],[(0,[vI 1,.base (.string ⟨⟨[97]⟩⟩),.base (.string ⟨⟨[]⟩⟩),vI 0,vI 0,.osl 1 0 1 10,vI 8,.base (.string ⟨⟨[98,45,50]⟩⟩),.base (.string ⟨⟨[]⟩⟩),vI 0,vI 0,.osl 2 0 1 10]),(1,[vI 3,vI 0,vI 1,.osl 3 0 1 6,vF,vU 0,vU 3221225986,vF,vU 0,vU 0]),(2,[vI 6,vI 0,vI 1,.osl 4 0 1 6,vF,vU 0,vU 3221225987,vF,vU 0,vU 0]),(3,[vB 2,vB 0,vB 0,vB 0,vB 0,vB 101]),(4,[vB 2,vB 0,vB 0,vB 0,vB 0,vB 102])],.base (.string ⟨⟨[108,97,110,32,49,57,50,46,48,46,50,46,48,47,50,52,32,50,48,48,49,58,100,98,56,58,58,47,54,52,10,109,101,109,98,101,114,32,49,32,97,32,45,32,48,32,48,10,112,111,114,116,32,51,32,48,32,49,32,48,50,58,48,48,58,48,48,58,48,48,58,48,48,58,54,53,32,49,57,50,46,48,46,50,46,50,32,45,10,109,101,109,98,101,114,32,56,32,98,45,50,32,45,32,48,32,48,10,112,111,114,116,32,54,32,48,32,49,32,48,50,58,48,48,58,48,48,58,48,48,58,48,48,58,54,54,32,49,57,50,46,48,46,50,46,51,32,45,10]⟩⟩),[(0,[vI 1,.base (.string ⟨⟨[97]⟩⟩),.base (.string ⟨⟨[]⟩⟩),vI 0,vI 0,.osl 1 0 1 10,vI 8,.base (.string ⟨⟨[98,45,50]⟩⟩),.base (.string ⟨⟨[]⟩⟩),vI 0,vI 0,.osl 2 0 1 10]),(1,[vI 3,vI 0,vI 1,.osl 3 0 1 6,vF,vU 0,vU 3221225986,vF,vU 0,vU 0]),(2,[vI 6,vI 0,vI 1,.osl 4 0 1 6,vF,vU 0,vU 3221225987,vF,vU 0,vU 0]),(3,[vB 2,vB 0,vB 0,vB 0,vB 0,vB 101]),(4,[vB 2,vB 0,vB 0,vB 0,vB 0,vB 102])]⟩
theorem kE71_ok:kE71.OK Tryz.prog:=KnE.run envK5 60 kE71 (by kernel_rfl)
def kE72:KnE:=⟨159,2,[.own 0 0],[(0,[.osl 1 2 1 1,vF]),(1,[.base (.string ⟨⟨[108,97,110]⟩⟩),.base (.string ⟨⟨[49,57,50,46,48,46,50,46,48,47,50,52]⟩⟩),.base (.string ⟨⟨[50,48,48,49,58,100,98,56,58,58,47,54,52]⟩⟩)])],.agg [vT,vU 2306139568115548160,vU 0,vI 64],[(0,[.osl 1 3 0 1,vF]),(1,[.base (.string ⟨⟨[108,97,110]⟩⟩),.base (.string ⟨⟨[49,57,50,46,48,46,50,46,48,47,50,52]⟩⟩),.base (.string ⟨⟨[50,48,48,49,58,100,98,56,58,58,47,54,52]⟩⟩)])]⟩
theorem kE72_ok:kE72.OK Tryz.prog:=KnE.run envK5 60 kE72 (by kernel_rfl)
def kL6:List KnE:=[kE71,kE72]
theorem kL6_ok:∀ e,e∈kL6→e.OK Tryz.prog:=by
 intro e h
 simp only [kL6,List.mem_cons,List.not_mem_nil,or_false] at h
 rcases h with rfl|rfl
 ·exact kE71_ok
 ·exact kE72_ok
def kR6:Rec:=knO kR5 (knL kL6)
theorem kR6_ok:RecOK Tryz.prog kR6:=knO_ok kR5_ok (knL_ok kL6_ok)
noncomputable def envK6:Env Tryz.prog:=envK kR6 kR6_ok
def kE73:KnE:=⟨94,0,[.base (.string ⟨⟨[108,97,110,32,49,57,50,46,48,46,50,46,48,47,50,52,32,50,48,48,49,58,100,98,56,58,58,47,54,52,10,109,101,109,98,101,114,32,49,32,97,32,45,32,48,32,48,10,112,111,114,116,32,51,32,48,32,49,32,48,50,58,48,48,58,48,48,58,48,48,58,48,48,58,54,53,32,49,57,50,46,48,46,50,46,50,32,45,10,109,101,109,98,101,114,32,56,32,98,45,50,32,45,32,48,32,48,10,112,111,114,116,32,54,32,48,32,49,32,48,50,58,48,48,58,48,48,58,48,48,58,48,48,58,54,54,32,49,57,50,46,48,46,50,46,51,32,45,10]⟩⟩)],[],.tup [.agg [vF,vU 0,vU 3221225984,vI 24,vT,vU 2306139568115548160,vU 0,vI 64,.nils,.osl 1120 0 2 6],vI 0],[(1120,[vI 1,.base (.string ⟨⟨[97]⟩⟩),.base (.string ⟨⟨[]⟩⟩),vI 0,vI 0,.osl 976 0 1 10,vI 8,.base (.string ⟨⟨[98,45,50]⟩⟩),.base (.string ⟨⟨[]⟩⟩),vI 0,vI 0,.osl 1264 0 1 10]),(976,[vI 3,vI 0,vI 1,.osl 977 0 1 6,vF,vU 0,vU 3221225986,vF,vU 0,vU 0]),(1264,[vI 6,vI 0,vI 1,.osl 1265 0 1 6,vF,vU 0,vU 3221225987,vF,vU 0,vU 0]),(977,[vB 2,vB 0,vB 0,vB 0,vB 0,vB 101]),(1265,[vB 2,vB 0,vB 0,vB 0,vB 0,vB 102])]⟩
theorem kE73_ok:kE73.OK Tryz.prog:=KnE.run envK6 60 kE73 (by kernel_rfl)
def kL7:List KnE:=[kE73]
theorem kL7_ok:∀ e,e∈kL7→e.OK Tryz.prog:=by
 intro e h
 simp only [kL7,List.mem_cons,List.not_mem_nil,or_false] at h
 subst h
 exact kE73_ok
def kR7:Rec:=knO kR6 (knL kL7)
theorem kR7_ok:RecOK Tryz.prog kR7:=knO_ok kR6_ok (knL_ok kL7_ok)
def dbA:Db:=⟨⟨⟨false,0,3221225984⟩,24⟩,⟨⟨true,2306139568115548160,0⟩,64⟩,[],[⟨1,⟨⟨[97]⟩⟩,⟨⟨[]⟩⟩,0,0,[⟨3,0,1,[[2,0,0,0,0,101]],⟨false,0,3221225986⟩,⟨false,0,0⟩⟩]⟩,⟨8,⟨⟨[98,45,50]⟩⟩,⟨⟨[]⟩⟩,0,0,[⟨6,0,1,[[2,0,0,0,0,102]],⟨false,0,3221225987⟩,⟨false,0,0⟩⟩]⟩]⟩
theorem dbA_ok:DbS dbA:=by
 refine ⟨by decide,by decide,fun m hm=>?_⟩
 simp only [dbA,List.nil_append,List.mem_cons,List.not_mem_nil,or_false] at hm
 rcases hm with rfl|rfl<;>refine ⟨Nat.le_of_ble_eq_true rfl,fun p hp=>?_⟩<;>simp only [List.mem_cons,List.not_mem_nil,or_false] at hp<;>subst hp<;>refine ⟨Nat.le_of_ble_eq_true rfl,fun m hm=>?_⟩<;>simp only [List.mem_cons,List.not_mem_nil,or_false] at hm<;>subst hm<;>rfl
theorem portsA:portsOf dbA=[⟨3,0,1,[[2,0,0,0,0,101]],⟨false,0,3221225986⟩,⟨false,0,0⟩⟩,⟨6,0,1,[[2,0,0,0,0,102]],⟨false,0,3221225987⟩,⟨false,0,0⟩⟩]:=by kernel_rfl
def kePorts:KnE:=⟨97,5,[.agg [.base (.bool false),.base (.int .u64 0),.base (.int .u64 3221225984),.base (.int .i64 24),.base (.bool true),.base (.int .u64 2306139568115548160),.base (.int .u64 0),.base (.int .i64 64),.nils,.osl 0 0 2 6]],[(0,[.base (.int .i64 1),.base (.string ⟨⟨[97]⟩⟩),.base (.string ⟨⟨[]⟩⟩),.base (.int .i64 0),.base (.int .i64 0),.osl 1 0 1 10,.base (.int .i64 8),.base (.string ⟨⟨[98,45,50]⟩⟩),.base (.string ⟨⟨[]⟩⟩),.base (.int .i64 0),.base (.int .i64 0),.osl 2 0 1 10]),(1,[.base (.int .i64 3),.base (.int .i64 0),.base (.int .i64 1),.osl 3 0 1 6,.base (.bool false),.base (.int .u64 0),.base (.int .u64 3221225986),.base (.bool false),.base (.int .u64 0),.base (.int .u64 0)]),(2,[.base (.int .i64 6),.base (.int .i64 0),.base (.int .i64 1),.osl 4 0 1 6,.base (.bool false),.base (.int .u64 0),.base (.int .u64 3221225987),.base (.bool false),.base (.int .u64 0),.base (.int .u64 0)]),(3,[.base (.int .u8 2),.base (.int .u8 0),.base (.int .u8 0),.base (.int .u8 0),.base (.int .u8 0),.base (.int .u8 101)]),(4,[.base (.int .u8 2),.base (.int .u8 0),.base (.int .u8 0),.base (.int .u8 0),.base (.int .u8 0),.base (.int .u8 102)])],.isl (prtsC (portsOf dbA)) 2,[]⟩
theorem kePorts_ok:kePorts.OK Tryz.prog:=KnE.give ⟨Tryz.f97,Tryz.func97,by kernel_rfl,by kernel_rfl⟩ (by have h:=portsS_any dbA dbA_ok (by rw [portsA];decide);rw [show (portsOf dbA).length=2 by rw [portsA];rfl] at h;exact h) rfl (by kernel_rfl)
def kRp:Rec:=knO kR7 (knL [kePorts])
theorem kRp_ok:RecOK Tryz.prog kRp:=knO_ok kR7_ok (knL_ok fun e h=>by simp only [List.mem_cons,List.not_mem_nil,or_false] at h;subst h;exact kePorts_ok)
noncomputable def envP:Env Tryz.prog:=envK kRp kRp_ok
theorem awake_any:AFn Tryz.prog 12 0 [] mt (.base (.bool true)) mt:=AFn.run envP 60 (by kernel_rfl)
theorem topHolders_law (l:List Int) (now0:Int) (hl:l.length≤9223372036854775807):AFn Tryz.prog 3 0 [.isl (l.map fun z=>.base (.int .i64 z)) l.length,.base (.int .i64 now0)] mt (.base (.bool true)) mt:=holders_law awake_any l now0 hl
end Go.Proofs.YtbfnfgpjgdbmeaaGreatDoor
