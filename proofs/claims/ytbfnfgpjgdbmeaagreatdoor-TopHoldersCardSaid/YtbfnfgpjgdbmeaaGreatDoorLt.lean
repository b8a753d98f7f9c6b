/-
  The listed variables hold what the abstract machine says they hold; a variable that is named only holds some number; lists of numbers, as they come in.
-/
import Derived.Test.YtbfnfgpjgdbmeaaGreatDoorMab
import Derived.Test.YtbfnfgpjgdbmeaaGreatDoorGt
import Derived.Test.YtbfnfgpjgdbmeaaGreatDoorQe
import Derived.Test.YtbfnfgpjgdbmeaaGreatDoorHe
import Derived.Test.YtbfnfgpjgdbmeaaGreatDoorNo
import Derived.Test.YtbfnfgpjgdbmeaaGreatDoorCards
import Derived.Test.YtbfnfgpjgdbmeaaGreatDoorTie
import Derived.SevenTiedAt
import Derived.LaidMore
import Derived.LaidHandle
import Derived.OpenShut
import Derived.Deep.Strs
import Derived.Lay
import Derived.Shelf.Vars
namespace Go.Proofs.YtbfnfgpjgdbmeaaGreatDoor
open Go.ChangeShapes Go.WideShapes Go.ChangeAt Go.RowKit
set_option maxRecDepth 20000 in
theorem open_ints {H:Type} {enc:TypeId × Value→H} {w:World} {base:Nat} {spare:Nat→Bool} {held:Bool} {fuel:Nat} {t te:TypeId} {q:IntKind} {n:Nat} {cs:List Value} {y:DataW H × List MemPlace}
 (ht:Tryz.prog.underlying t=some (.array n te)) (hte:Tryz.prog.underlying te=some (.int q)) (hce:Tryz.prog.cellsOf te=1) (hc:Tryz.prog.cellsOf t=n) (h:DataW.trod enc Tryz.prog w base spare held fuel t cs=some y) :
 ∃ ks:List Int,cs=ks.map (Value.int q)∧y.1=.agg (ks.map fun k=>.lit (.int q k)):=by
 obtain ⟨xs,m,_,hx,hl,hn,hel⟩:=DataW.trod_array ht h
 rw [hc] at hl
 rw [hce] at hel
 have key:∀ i,i < n→∃ k:Int,cs[i]?=some (.int q k)∧(xs[i]?).map (·.1)=some (.lit (.int q k)):=fun i hi=>by
  have h1:=hel i hi
  rw [Nat.mul_one] at h1
  have h2:xs[i]?=some xs[i]:=List.getElem?_eq_getElem (by omega)
  rw [h2] at h1
  obtain ⟨k,e1,e2,_⟩:=DataW.trod_int hte h1
  refine ⟨k,?_,by rw [h2];simp [e2]⟩
  have h3:((cs.drop i).take 1)[0]?=some (.int q k):=by rw [e1];rfl
  simpa using h3
 have hks:∃ ks:List Int,ks.length=n∧∀ i,i < n→∀ k,cs[i]?=some (.int q k)→ks[i]?=some k:=by
  refine ⟨cs.map fun v=>match v with
   | .int _ z=>z
   | _=>0,by simpa using hl,fun i hi k hk=>by simp [hk]⟩
 obtain ⟨ks,hkl,hk⟩:=hks
 refine ⟨ks,?_,?_⟩
 ·refine List.ext_getElem? fun i=>?_
  by_cases hi:i < n
  ·obtain ⟨k,h1,_⟩:=key i hi
   rw [h1,List.getElem?_map,hk i hi k h1];rfl
  ·rw [List.getElem?_eq_none (by omega),List.getElem?_eq_none (by simp;omega)]
 ·rw [hx]
  show DataW.agg _=_
  congr 1
  refine List.ext_getElem? fun i=>?_
  by_cases hi:i < n
  ·obtain ⟨k,h1,h2⟩:=key i hi
   rw [List.getElem?_map,h2,List.getElem?_map,hk i hi k h1];rfl
  ·rw [List.getElem?_eq_none (by simp;omega),List.getElem?_eq_none (by simp;omega)]
theorem litq_inj {H:Type} {q:IntKind} {a b:List Int} (h:(a.map fun k=>(DataW.lit (.int q k):DataW H))=b.map fun k=>.lit (.int q k)):a=b:=by
 induction a generalizing b with
 | nil=>cases b with
  | nil=>rfl
  | cons y b=>cases h
 | cons x a ih =>
  cases b with
  | nil=>cases h
  | cons y b =>
   simp only [List.map_cons,List.cons.injEq,DataW.lit.injEq,Lit.int.injEq,true_and] at h
   rw [h.1,ih h.2]
theorem laid_row {W:World} {nm:String} {g:Nat} {t te:TypeId} {q:IntKind} {n:Nat} {cs:Array Value} {fuel:Nat} {p:List MemPlace} {ks:List Int} {d:DataW Unit} (hd0:d=.agg (ks.map fun k=>.lit (.int q k))) (hne:ks≠[])
 (hg:Tryz.prog.globalNamed nm=some g) (ht:Tryz.prog.underlying t=some (.array n te)) (hte:Tryz.prog.underlying te=some (.int q)) (hce:Tryz.prog.cellsOf te=1) (hc:Tryz.prog.cellsOf t=n)
 (hv:W.var? Tryz.prog nm=some cs) (hd:DataW.trod (fun _=>()) Tryz.prog W 0 (fun _=>true) false fuel t cs.toList=some (d,p)) :
 g < W.heap.size∧∀ (i:Nat) v,(ks.map (Value.int q))[i]?=some v→W.cell? ⟨g,i,none⟩=some v:=by
 obtain ⟨ks',e1,e2⟩:=open_ints ht hte hce hc hd
 rw [hd0] at e2
 have e3:=litq_inj (DataW.agg.inj e2)
 subst e3
 obtain ⟨l⟩:=cs
 simp only at e1
 subst e1
 have hcell:∀ i,W.cell? ⟨g,i,none⟩=(ks.map (Value.int q)).toArray[i]?:=fun i=>World.var?_cell hg hv i
 refine ⟨?_,fun i v hv=>?_⟩
 ·cases ks with
  | nil=>exact absurd rfl hne
  | cons k ks=>exact World.block_lt_of_cell? W _ ((hcell 0).trans (by rfl))
 ·rw [hcell i,← hv,List.getElem?_toArray]
theorem Tryz.gH : Tryz.prog.globalNamed "exchangepoint/arp.head" = some 2 := by kernel_rfl
theorem Tryz.gP : Tryz.prog.globalNamed "internal/strconv.uint64pow10" = some 4 := by kernel_rfl
theorem Tryz.gD : Tryz.prog.globalNamed "math/bits.deBruijn64tab" = some 10 := by kernel_rfl
theorem Tryz.gAd : Tryz.prog.globalNamed "exchangepoint/resource.addresses" = some 0 := by kernel_rfl
theorem Tryz.gNu : Tryz.prog.globalNamed "exchangepoint/resource.numbers" = some 1 := by kernel_rfl
theorem Tryz.tyH:(Tryz.prog.globals[2]?).map (·.type)=some 95:=by kernel_rfl
theorem Tryz.tyP:(Tryz.prog.globals[4]?).map (·.type)=some 463:=by kernel_rfl
theorem Tryz.tyD:(Tryz.prog.globals[10]?).map (·.type)=some 487:=by kernel_rfl
theorem Tryz.tyAd:(Tryz.prog.globals[0]?).map (·.type)=some 134:=by kernel_rfl
theorem Tryz.tyNu:(Tryz.prog.globals[1]?).map (·.type)=some 138:=by kernel_rfl
theorem ty_of {nm:String} {g g':Nat} {t t':TypeId} (hg:Tryz.prog.globalNamed nm=some g) (ht:(Tryz.prog.globals[g]?).map (·.type)=some t) (hg':Tryz.prog.globalNamed nm=some g') (ht':(Tryz.prog.globals[g']?).map (·.type)=some t'):t'=t:=by
 obtain rfl:=Option.some.inj (hg.symm.trans hg')
 exact (Option.some.inj (ht.symm.trans ht')).symm
theorem open_max {W:World} (h:W.ShapedOpen Tryz.prog):∃ m,W.cell? ⟨3,0,none⟩=some (.int .i64 m) :=
 cell_of_shapedOpen_int (t:=3) (zero:=#[.int .i64 0]) h (of_decide_eq_true (by kernel_rfl)) (by kernel_rfl) rfl (by kernel_rfl) (by kernel_rfl) Tryz.underlying3
theorem len3 {α:Type} {l:List α} (h:l.length=3):∃ a b c,l=[a,b,c]:=by
 match l,h with
 | [a,b,c],_=>exact ⟨a,b,c,rfl⟩
theorem laid_funcs {W:World} {nm:String} {g:Nat} {t:TypeId} {f0 f1 f2:Field} {d0 d1 d2:DataW Unit} {b0 b1 b2:UInt8} {r0 r1 r2:List UInt8} {k0 k1 k2:FuncId} {p0 q0 p1 q1 p2 q2:Array TypeId} {v0 v1 v2:Bool} (h:funcsAt Tryz.prog W nm (.agg [d0,d1,d2])) (hg:Tryz.prog.globalNamed nm=some g) (hty:(Tryz.prog.globals[g]?).map (·.type)=some t) (ht:Tryz.prog.underlying t=some (.struct #[f0,f1,f2])) (hc:Tryz.prog.cellsOf t=3)
 (e0:d0.funcsOut=.held (b0::r0)) (e1:d1.funcsOut=.held (b1::r1)) (e2:d2.funcsOut=.held (b2::r2)) (o0:f0.offset=0) (o1:f1.offset=1) (o2:f2.offset=2) (c0:Tryz.prog.cellsOf f0.type=1) (c1:Tryz.prog.cellsOf f1.type=1) (c2:Tryz.prog.cellsOf f2.type=1)
 (t0:Tryz.prog.underlying f0.type=some (.func p0 q0 v0)) (t1:Tryz.prog.underlying f1.type=some (.func p1 q1 v1)) (t2:Tryz.prog.underlying f2.type=some (.func p2 q2 v2))
 (n0:((List.range Tryz.prog.funcs.size).filter fun f=>(Tryz.prog.funcs[f]?).any (·.name.toUTF8.data.toList == b0::r0))=[k0]) (n1:((List.range Tryz.prog.funcs.size).filter fun f=>(Tryz.prog.funcs[f]?).any (·.name.toUTF8.data.toList == b1::r1))=[k1]) (n2:((List.range Tryz.prog.funcs.size).filter fun f=>(Tryz.prog.funcs[f]?).any (·.name.toUTF8.data.toList == b2::r2))=[k2]) :
 g < W.heap.size∧∀ (i:Nat) v,[Value.func (.func k0) #[] #[],.func (.func k1) #[] #[],.func (.func k2) #[] #[]][i]?=some v→W.cell? ⟨g,i,none⟩=some v:=by
 obtain ⟨g',t',cs,fuel,p,hg',ht',hv,hd⟩:=h
 obtain rfl:=ty_of hg hty hg' ht'
 obtain rfl:=Option.some.inj (hg.symm.trans hg')
 obtain ⟨y0,y1,y2,n,hx,hl,h0,h1,h2⟩:=Deep.trod_struct3 ht hd
 rw [hc] at hl
 obtain ⟨l⟩:=cs
 simp only at hl h0 h1 h2
 obtain ⟨a,b,c,rfl⟩:∃ a b c,l=[a,b,c]:=len3 hl
 rw [o0,c0] at h0
 rw [o1,c1] at h1
 rw [o2,c2] at h2
 have hx':(DataW.agg [d0,d1,d2]:DataW Unit).funcsOut=.agg [y0.1,y1.1,y2.1]:=congrArg Prod.fst hx
 have hx2:(DataW.agg [d0,d1,d2]:DataW Unit).funcsOut=.agg [d0.funcsOut,d1.funcsOut,d2.funcsOut]:=by simp [DataW.funcsOut,DataW.funcsOutAll]
 rw [hx2,e0,e1,e2] at hx'
 injection hx' with hx'
 injection hx' with z0 hx'
 injection hx' with z1 hx'
 injection hx' with z2 _
 obtain ⟨y0,u0⟩:=y0
 obtain ⟨y1,u1⟩:=y1
 obtain ⟨y2,u2⟩:=y2
 simp only at z0 z1 z2
 subst z0 z1 z2
 have w0:=func_of_trod t0 n0 h0
 have w1:=func_of_trod t1 n1 h1
 have w2:=func_of_trod t2 n2 h2
 subst w0 w1 w2
 have hcell:∀ i,W.cell? ⟨g,i,none⟩=#[Value.func (.func k0) #[] #[],.func (.func k1) #[] #[],.func (.func k2) #[] #[]][i]?:=fun i=>World.var?_cell hg hv i
 exact ⟨World.block_lt_of_cell? W _ ((hcell 0).trans (by rfl)),fun i v hv=>by rw [hcell i,← hv,← Array.getElem?_toList]⟩
theorem laidMetH_data {P:Program} {l l':List (String × DataW Unit)} {w:World} (e:(l.filter fun x=>x.2.handleName?.isNone)=l') (h:laidMetH P l w):laidMet P l' w:=by
 subst e
 unfold laidMetH at h
 generalize hfl:(l.filter fun x=>x.2.handleName?.isSome)=fl at h
 cases fl with
 | nil =>
  rw [List.filter_eq_self.2 fun x hx=>by
   have:=(List.filter_eq_nil_iff.1 hfl) x hx
   cases hn:x.2.handleName? with
   | none=>rfl
   | some s=>rw [hn] at this;exact absurd rfl this]
  exact h
 | cons a rs=>exact h.1
noncomputable def thW0 (os:Os):World:={ World.holding Tryz.prog os ⟨#[],#[],[]⟩ with heap:=⟨Lay.setRows (World.holding Tryz.prog os ⟨#[],#[],[]⟩).heap.toList [(0,gA),(1,gNm)]⟩ }
noncomputable def thW (os : Os) : World := (thW0 os).layVars Tryz.prog [("math/bits.deBruijn32tab", Rows.laid_math_bits_deBruijn32tab), ("math/bits.deBruijn64tab", Rows.laid_math_bits_deBruijn64tab), ("internal/strconv.uint64pow10", Rows.laid_internal_strconv_uint64pow10), ("unicode/utf8.acceptRanges", Rows.laid_unicode_utf8_acceptRanges), ("strconv.ErrRange", Rows.laid_strconv_ErrRange), ("strconv.ErrSyntax", Rows.laid_strconv_ErrSyntax), ("exchangepoint/arp.head", Rows.laid_exchangepoint_arp_head), ("unicode/utf8.first", Rows.laid_unicode_utf8_first)]
theorem thW_os (os:Os):(thW os).os=os:=World.layVars_os _ _ _
theorem laidMet_layAll {P:Program} {w0:World} {laid:List (String × DataW Unit)} (args:Array Value) (hf:w0.layFits P laid []=true) (hi:w0.layIfaces P laid (w0.layVars P laid)=true):laidMet P laid ((w0.layVars P laid).forCall (fun _ _=>0) ⟨#[],args,[]⟩).memory:=by
 have e1:(laid.filter fun x=>(laid.map (·.1)).contains x.1)=laid:=List.filter_eq_self.2 fun x hx=>List.contains_iff_mem.2 (List.mem_map.2 ⟨x,hx,rfl⟩)
 have e2:(laid.filter fun x=>!(laid.map (·.1)).contains x.1)=[]:=List.filter_eq_nil_iff.2 fun x hx=>by rw [List.contains_iff_mem.2 (List.mem_map.2 ⟨x,hx,rfl⟩)];simp
 have h:laidMet P laid (w0.layVars P laid):=laidMet_layVars (w0:=w0) (laid.map (·.1)) [] (by rw [e1]) (by rw [e1];exact hf) (by rw [e1];exact hi) (by rw [e2];exact LaidIn.none)
 exact h.of_heap (by simp [World.memory,World.forCall,Input.heap])
theorem thW_data (os : Os) (args : Array Value) : laidMet Tryz.prog [("math/bits.deBruijn32tab", Rows.laid_math_bits_deBruijn32tab), ("math/bits.deBruijn64tab", Rows.laid_math_bits_deBruijn64tab), ("internal/strconv.uint64pow10", Rows.laid_internal_strconv_uint64pow10), ("unicode/utf8.acceptRanges", Rows.laid_unicode_utf8_acceptRanges), ("strconv.ErrRange", Rows.laid_strconv_ErrRange), ("strconv.ErrSyntax", Rows.laid_strconv_ErrSyntax), ("exchangepoint/arp.head", Rows.laid_exchangepoint_arp_head), ("unicode/utf8.first", Rows.laid_unicode_utf8_first)] ((thW os).forCall (fun _ _ => 0) ⟨#[], args, []⟩).memory := laidMet_layAll args (by kernel_rfl) (by kernel_rfl)
theorem th_plain : (([("math/bits.deBruijn32tab", Rows.laid_math_bits_deBruijn32tab), ("math/bits.deBruijn64tab", Rows.laid_math_bits_deBruijn64tab), ("internal/strconv.uint64pow10", Rows.laid_internal_strconv_uint64pow10), ("unicode/utf8.acceptRanges", Rows.laid_unicode_utf8_acceptRanges), ("strconv.ErrRange", Rows.laid_strconv_ErrRange), ("strconv.ErrSyntax", Rows.laid_strconv_ErrSyntax), ("exchangepoint/arp.head", Rows.laid_exchangepoint_arp_head), ("exchangepoint/resource.addresses", Rows.laid_exchangepoint_resource_addresses), ("exchangepoint/resource.numbers", Rows.laid_exchangepoint_resource_numbers), ("unicode/utf8.first", Rows.laid_unicode_utf8_first)] : List (String × DataW Unit)).filter fun x => x.2.handleName?.isNone) = [("math/bits.deBruijn32tab", Rows.laid_math_bits_deBruijn32tab), ("math/bits.deBruijn64tab", Rows.laid_math_bits_deBruijn64tab), ("internal/strconv.uint64pow10", Rows.laid_internal_strconv_uint64pow10), ("unicode/utf8.acceptRanges", Rows.laid_unicode_utf8_acceptRanges), ("strconv.ErrRange", Rows.laid_strconv_ErrRange), ("strconv.ErrSyntax", Rows.laid_strconv_ErrSyntax), ("exchangepoint/arp.head", Rows.laid_exchangepoint_arp_head), ("unicode/utf8.first", Rows.laid_unicode_utf8_first)] := by kernel_rfl
theorem thW_met (os : Os) (args : Array Value) : laidMetH Tryz.prog [("math/bits.deBruijn32tab", Rows.laid_math_bits_deBruijn32tab), ("math/bits.deBruijn64tab", Rows.laid_math_bits_deBruijn64tab), ("internal/strconv.uint64pow10", Rows.laid_internal_strconv_uint64pow10), ("unicode/utf8.acceptRanges", Rows.laid_unicode_utf8_acceptRanges), ("strconv.ErrRange", Rows.laid_strconv_ErrRange), ("strconv.ErrSyntax", Rows.laid_strconv_ErrSyntax), ("exchangepoint/arp.head", Rows.laid_exchangepoint_arp_head), ("exchangepoint/resource.addresses", Rows.laid_exchangepoint_resource_addresses), ("exchangepoint/resource.numbers", Rows.laid_exchangepoint_resource_numbers), ("unicode/utf8.first", Rows.laid_unicode_utf8_first)] ((thW os).forCall (fun _ _ => 0) ⟨#[], args, []⟩).memory :=
 laidMetH_of_parts3 (fuel:=8) (by rw [th_plain];exact thW_data os args) (by kernel_rfl) (by kernel_rfl)
theorem glob_of_laidT {W : World} (hs : W.ShapedOpen Tryz.prog) (h : laidMetH Tryz.prog [("math/bits.deBruijn32tab", Rows.laid_math_bits_deBruijn32tab), ("math/bits.deBruijn64tab", Rows.laid_math_bits_deBruijn64tab), ("internal/strconv.uint64pow10", Rows.laid_internal_strconv_uint64pow10), ("unicode/utf8.acceptRanges", Rows.laid_unicode_utf8_acceptRanges), ("strconv.ErrRange", Rows.laid_strconv_ErrRange), ("strconv.ErrSyntax", Rows.laid_strconv_ErrSyntax), ("exchangepoint/arp.head", Rows.laid_exchangepoint_arp_head), ("exchangepoint/resource.addresses", Rows.laid_exchangepoint_resource_addresses), ("exchangepoint/resource.numbers", Rows.laid_exchangepoint_resource_numbers), ("unicode/utf8.first", Rows.laid_unicode_utf8_first)] W) : Glob (fun _ => False) W := by
 have hfa := laidMetH.funcs h (n := "exchangepoint/resource.addresses") (d := .agg [.iface "func" (.lit (.string [101, 120, 99, 104, 97, 110, 103, 101, 112, 111, 105, 110, 116, 47, 97, 100, 100, 114, 46, 67, 109, 112])), .iface "func" (.lit (.string [101, 120, 99, 104, 97, 110, 103, 101, 112, 111, 105, 110, 116, 47, 97, 100, 100, 114, 46, 78, 101, 120, 116])), .iface "func" (.lit (.string [101, 120, 99, 104, 97, 110, 103, 101, 112, 111, 105, 110, 116, 47, 114, 101, 115, 111, 117, 114, 99, 101, 46, 98, 101, 102, 111, 114, 101]))]) (List.mem_of_getElem? (i := 7) rfl)
 have hfn := laidMetH.funcs h (n := "exchangepoint/resource.numbers") (d := .agg [.iface "func" (.lit (.string [99, 109, 112, 46, 67, 111, 109, 112, 97, 114, 101, 91, 105, 110, 116, 93])), .iface "func" (.lit (.string [101, 120, 99, 104, 97, 110, 103, 101, 112, 111, 105, 110, 116, 47, 114, 101, 115, 111, 117, 114, 99, 101, 46, 110, 117, 109, 98, 101, 114, 115, 36, 49])), .iface "func" (.lit (.string [101, 120, 99, 104, 97, 110, 103, 101, 112, 111, 105, 110, 116, 47, 114, 101, 115, 111, 117, 114, 99, 101, 46, 110, 117, 109, 98, 101, 114, 115, 36, 50]))]) (List.mem_of_getElem? (i := 8) rfl)
 obtain ⟨d1,d2⟩:=laid_funcs (k0:=55) (k1:=57) (k2:=443) (b0:=101) (r0:=[120,99,104,97,110,103,101,112,111,105,110,116,47,97,100,100,114,46,67,109,112]) (b1:=101) (r1:=[120,99,104,97,110,103,101,112,111,105,110,116,47,97,100,100,114,46,78,101,120,116]) (b2:=101) (r2:=[120,99,104,97,110,103,101,112,111,105,110,116,47,114,101,115,111,117,114,99,101,46,98,101,102,111,114,101]) hfa Tryz.gAd Tryz.tyAd Tryz.underlying134 (by kernel_rfl) (by kernel_rfl) (by kernel_rfl) (by kernel_rfl) rfl rfl rfl (by kernel_rfl) (by kernel_rfl) (by kernel_rfl) Tryz.underlying81 Tryz.underlying132 Tryz.underlying132 (by kernel_rfl) (by kernel_rfl) (by kernel_rfl)
 obtain ⟨e1,e2⟩:=laid_funcs (k0:=136) (k1:=444) (k2:=445) (b0:=99) (r0:=[109,112,46,67,111,109,112,97,114,101,91,105,110,116,93]) (b1:=101) (r1:=[120,99,104,97,110,103,101,112,111,105,110,116,47,114,101,115,111,117,114,99,101,46,110,117,109,98,101,114,115,36,49]) (b2:=101) (r2:=[120,99,104,97,110,103,101,112,111,105,110,116,47,114,101,115,111,117,114,99,101,46,110,117,109,98,101,114,115,36,50]) hfn Tryz.gNu Tryz.tyNu Tryz.underlying138 (by kernel_rfl) (by kernel_rfl) (by kernel_rfl) (by kernel_rfl) rfl rfl rfl (by kernel_rfl) (by kernel_rfl) (by kernel_rfl) Tryz.underlying29 Tryz.underlying136 Tryz.underlying136 (by kernel_rfl) (by kernel_rfl) (by kernel_rfl)
 replace h:=laidMetH_data th_plain h
 obtain ⟨ps,⟨g0,t0,cs0,f0,p0,q0,hg0,ht0,hv0,hd0,⟨g1,t1,cs1,f1,p1,q1,hg1,ht1,hv1,hd1,⟨g2,t2,cs2,f2,p2,q2,hg2,ht2,hv2,hd2,⟨g3,t3,cs3,f3,p3,q3,hg3,ht3,hv3,hd3,⟨g4,t4,cs4,f4,p4,q4,hg4,ht4,hv4,hd4,⟨g5,t5,cs5,f5,p5,q5,hg5,ht5,hv5,hd5,⟨g6,t6,cs6,f6,p6,q6,hg6,ht6,hv6,hd6,_,_⟩,_⟩,_⟩,_⟩,_⟩,_⟩,_⟩,_,_⟩:=h
 obtain rfl:=ty_of Tryz.gD Tryz.tyD hg1 ht1
 obtain rfl:=ty_of Tryz.gP Tryz.tyP hg2 ht2
 obtain rfl:=ty_of Tryz.gH Tryz.tyH hg6 ht6
 obtain ⟨a1,a2⟩:=laid_row (ks:=[0,1,56,2,57,49,28,3,61,58,42,50,38,29,17,4,62,47,59,36,45,43,51,22,53,39,33,30,24,18,12,5,63,55,48,27,60,41,37,16,46,35,44,21,52,32,23,11,54,26,40,15,34,20,31,10,25,14,19,9,13,8,7,6]) (q:=.u8) rfl (fun h=>by cases h) Tryz.gD Tryz.underlying487 Tryz.underlying5 (by kernel_rfl) (by kernel_rfl) hv1 hd1
 obtain ⟨b1,b2⟩:=laid_row (ks:=[1,10,100,1000,10000,100000,1000000,10000000,100000000,1000000000,10000000000,100000000000,1000000000000,10000000000000,100000000000000,1000000000000000,10000000000000000,100000000000000000,1000000000000000000,10000000000000000000]) (q:=.u64) rfl (fun h=>by cases h) Tryz.gP Tryz.underlying463 Tryz.underlying34 (by kernel_rfl) (by kernel_rfl) hv2 hd2
 obtain ⟨c1,c2⟩:=laid_row (ks:=[0,1,8,0,6,4]) (q:=.u8) rfl (fun h=>by cases h) Tryz.gH Tryz.underlying95 Tryz.underlying5 (by kernel_rfl) (by kernel_rfl) hv6 hd6
 obtain ⟨m,hm⟩:=open_max hs
 refine ⟨fun g vs hg=>?_,fun g hg=>?_⟩
 ·unfold gRaw at hg
  split at hg
  ·injection hg with hg;subst hg;exact ⟨d1,fun h=>h,d2⟩
  ·injection hg with hg;subst hg;exact ⟨e1,fun h=>h,e2⟩
  ·injection hg with hg;subst hg;exact ⟨c1,fun h=>h,c2⟩
  ·injection hg with hg;subst hg;exact ⟨b1,fun h=>h,b2⟩
  ·injection hg with hg;subst hg;exact ⟨a1,fun h=>h,a2⟩
  ·cases hg
 ·have:=Nat.eq_of_beq_eq_true hg
  subst this
  exact ⟨World.block_lt_of_cell? W _ hm,fun h=>h,m,hm⟩
theorem returns_and_shaped {H:Type} {enc:TypeId × Value→H} {a:Assume} {C:Checked} {os:Os} {f:FuncId} {fn:Func} {s:ChangeSpec} {conds:List PathCond} {apart fresh handsOn again:Bool} {X:World→Array Value→Prop}
 (hX:∀ (w w':World) (args:Array Value),w.heap=w'.heap→X w args→X w' args)
 (own:ownKnob C.prog.godebug=none) (started:os.Started) (noInit:C.prog.inits.idxOf? f=none) (hfn:C.prog.funcs[f]?=some fn)
 (witness:∃ (w:World) (tape:Tape) (i:Input),w.os=os∧(w.forCall tape i).Shaped C.prog∧i.vars=[]∧Input.okWide C.prog (w.forCall tape i) .any w.heap.size f i ∧
  ((s.pre enc C.prog fn conds apart (w.forCall tape i).memory i.args∧X (w.forCall tape i).memory i.args)∧sizedMet enc C.prog fn (OpenSpec.ofChange s) apart (w.forCall tape i).memory i.args)∧a.holds C.prog (lone (Frame.enter C.prog f i.args .normal) [] (w.forCall tape i)))
 (contract:∀ (W:World) (base:Nat) (args:Array Value) (ds gs:List (DataW H)) (before:List MemPlace),
  (∀ (j:Nat) t v,fn.params[j]?=some t→args[j]?=some v→Value.okWide C.prog W .any base t v) →
  DataW.Whole enc C.prog fn.params.toList s.vars apart W args.toList ds gs before →
  W.ShapedOpen C.prog→X W args →
  Calls C.prog f args W fun e W'=>∃ v,e=.returned v∧s.post enc C.prog fn apart fresh handsOn again W args v W') :
 ReturnsInHanded a C os f .any (fun w args=>(s.pre enc C.prog fn conds apart w args∧X w args)∧sizedMet enc C.prog fn (OpenSpec.ofChange s) apart w args) (s.post enc C.prog fn apart fresh handsOn again):=by
 refine returnsInHanded_of_calls own started noInit witness ?_
 intro w tape i _ hsh _ hok hpre hholds
 obtain ⟨_,_,_,fn',hfn',_,_,_,_,hval⟩:=hok
 have e:fn'=fn:=Option.some.inj (hfn'.symm.trans hfn)
 subst e
 obtain ⟨⟨⟨ds,gs,before,hw,hc⟩,hx⟩,hz⟩:=hpre
 have hw':=DataW.Whole.of_heap (w':=w.forCall tape i) (by rfl) hw
 refine (contract (w.forCall tape i) w.heap.size i.args ds gs before hval hw' hsh (hX _ _ _ (by rfl) hx)).mono fun e W' ⟨v,he,hp⟩=>?_
 subst he
 exact ChangeSpec.post_blind hp
section
variable {H:Type} {enc:TypeId × Value→H}
theorem opInt:Opens enc Tryz.prog 3 (fun (z:Int)=>[.base (.int .i64 z)]) (fun z=>(Lit.int .i64 z).wf=true):=.int Tryz.underlying3
theorem opInts:Opens enc Tryz.prog 22 (fun (l:List Int)=>[.isl (intsC l) l.length]) (fun l=>l.length≤9223372036854775807) :=
 (Opens.slice (n:=1) Tryz.underlying22 opInt (by kernel_rfl) (by decide) (fun _ _=>rfl)).map id (fun l _=>by unfold intsC;rw [List.map_eq_flatMap];rfl) (fun l h=>by have:=h.1;unfold maxLen at this;simp only [id];omega)
end
end Go.Proofs.YtbfnfgpjgdbmeaaGreatDoor
