/-
  Stations and bytes, as they come in. The database of members as the abstract machine sees it; keys of its maps. Comparing structs and arrays of numbers.
-/
import Derived.Test.YtcidmiacfjdepaaGreatDoorLy
import Derived.Test.YtcidmiacfjdepaaGreatDoorQb
import Derived.Test.YtcidmiacfjdepaaGreatDoorMab
import Derived.DeepKeys
namespace Go.Proofs.YtcidmiacfjdepaaGreatDoor
open Go.ChangeShapes Go.WideShapes Go.ChangeAt Go.RowKit
section
variable {H:Type} {enc:TypeId × Value→H}
theorem opU8:Opens enc Tryz.prog 5 (fun (z:Int)=>[.base (.int .u8 z)]) (fun z=>0≤z∧z≤255):=(Opens.int Tryz.underlying5).map id (fun _ _=>rfl) (fun _ h=>by have:=bounds_u8 h;simp only [id];omega)
theorem opMac:Opens enc Tryz.prog 23 (fun (l:List Int)=>bytesC l) (fun l=>l.length=6∧IsB l) :=
  (Opens.array (n:=6) (m:=1) Tryz.underlying23 (by kernel_rfl) (by kernel_rfl) opU8).map id (fun l _=>by unfold bytesC;rw [List.map_eq_flatMap];rfl) (fun l h=>⟨h.1,h.2⟩)
end
end Go.Proofs.YtcidmiacfjdepaaGreatDoor
namespace Go.Proofs.YtcidmiacfjdepaaGreatDoor
open Go.RowKit
structure Prt where
  id:Int
  sw:Int
  speed:Int
  macs:List (List Int)
  v4:Ad
  v6:Ad
structure Mem where
  asn:Int
  name:ByteArray
  set:ByteArray
  max4:Int
  max6:Int
  ports:List Prt
structure Pre where
  ad:Ad
  len:Int
structure Db where
  lan4:Pre
  lan6:Pre
  servers:List Mem
  members:List Mem
def macsC (l:List (List Int)):List AV:=l.flatMap bytesC
def prtC (p:Prt):List AV:=[.base (.int .i64 p.id),.base (.int .i64 p.sw),.base (.int .i64 p.speed),.isl (macsC p.macs) p.macs.length]++adC p.v4++adC p.v6
def prtsC (l:List Prt):List AV:=l.flatMap prtC
def memC (m:Mem):List AV:=[.base (.int .i64 m.asn),.base (.string m.name),.base (.string m.set),.base (.int .i64 m.max4),.base (.int .i64 m.max6),.isl (prtsC m.ports) m.ports.length]
def memsC (l:List Mem):List AV:=l.flatMap memC
def preC (p:Pre):List AV:=adC p.ad++[.base (.int .i64 p.len)]
def dbC (d:Db):List AV:=preC d.lan4++preC d.lan6++[.isl (memsC d.servers) d.servers.length,.isl (memsC d.members) d.members.length]
/-- a row of parts that are all of one size -/
theorem flat_tk {α:Type} {c:α→List AV} {n:Nat} (hc:∀ x,(c x).length=n) {l:List α} {k:Nat} (h:k < l.length):Tk (l.flatMap c) (k * n) n (c l[k]):=by
  refine ⟨hc _,fun j d hj=>?_⟩
  have hjn:j < n:=by have:=(List.getElem?_eq_some_iff.1 hj).1;rwa [hc] at this
  induction l generalizing k with
  | nil=>simp at h
  | cons x l ih =>
    rw [List.flatMap_cons]
    cases k with
    | zero =>
      rw [Nat.zero_mul,Nat.zero_add,List.getElem?_append_left (by rw [hc];exact hjn)]
      simpa using hj
    | succ k =>
      rw [show (k + 1) * n + j=n + (k * n + j) from by rw [Nat.succ_mul];omega]
      rw [List.getElem?_append_right (by rw [hc];omega),hc,show n + (k * n + j) - n=k * n + j from by omega]
      exact ih (by simpa using h) (by simpa using hj)
theorem prts_tk {l:List Prt} {k:Nat} (h:k < l.length):Tk (prtsC l) (k * 10) 10 (prtC l[k]):=flat_tk (c:=prtC) (fun _=>rfl) h
theorem mems_tk {l:List Mem} {k:Nat} (h:k < l.length):Tk (memsC l) (k * 6) 6 (memC l[k]):=flat_tk (c:=memC) (fun _=>rfl) h
theorem macs_tk {l:List (List Int)} (hl:∀ m,m∈l→m.length=6) {k:Nat} (h:k < l.length):Tk (macsC l) (k * 6) 6 (bytesC l[k]):=by
  have key:∀ (q:List (List Int)) (k:Nat) (h:k < q.length),(∀ m,m∈q→m.length=6)→∀ (j:Nat) d,(bytesC q[k])[j]?=some d→(macsC q)[k * 6 + j]?=some d:=by
    intro q
    induction q with
    | nil=>intro k h;simp at h
    | cons x q ih =>
      intro k h hq j d hj
      have hx:(bytesC x).length=6:=by rw [bytesC_len];exact hq x (by simp)
      have hjn:j < 6:=by
        have h1:=(List.getElem?_eq_some_iff.1 hj).1
        rw [bytesC_len,hq _ (List.getElem_mem h)] at h1
        exact h1
      show (bytesC x++macsC q)[k * 6 + j]?=some d
      cases k with
      | zero =>
        rw [Nat.zero_mul,Nat.zero_add,List.getElem?_append_left (by rw [hx];exact hjn)]
        simpa using hj
      | succ k =>
        rw [List.getElem?_append_right (by rw [hx];omega),hx,show (k + 1) * 6 + j - 6=k * 6 + j from by omega]
        exact ih k (by simpa using h) (fun m hm=>hq m (by simp [hm])) j d (by simpa using hj)
  exact ⟨by rw [bytesC_len];exact hl _ (List.getElem_mem h),key l k h hl⟩
def macV (m:List Int):Value:=.agg (m.map fun x=>Value.int .u8 x).toArray
def adV (a:Ad):Value:=.agg [.bool a.v6,.int .u64 a.hi,.int .u64 a.lo].toArray
theorem kv_mac (m:List Int):KV (.agg (bytesC m)) (macV m):=by
  have:=KV.agg (m.map fun x=>Value.int .u8 x)
  rw [List.map_map] at this
  exact this
theorem kv_ad (a:Ad):KV (.agg (adC a)) (adV a):=KV.agg [.bool a.v6,.int .u64 a.hi,.int .u64 a.lo]
theorem Tryz.laid11:laidOutB Tryz.prog=true:=by kernel_rfl
theorem mk_mac:MKey Tryz.prog 23 (kdOf Tryz.prog 23):=mk_agg Tryz.laid11 (of_decide_eq_true (by kernel_rfl)) (by kernel_rfl) (by kernel_rfl)
theorem mk_ad:MKey Tryz.prog 42 (kdOf Tryz.prog 42):=mk_agg Tryz.laid11 (of_decide_eq_true (by kernel_rfl)) (by kernel_rfl) (by kernel_rfl)
theorem wf_u8 {x:Int} (h0:0≤x) (h1:x≤255):(Lit.int .u8 x).wf=true:=by
  unfold Lit.wf
  simp only [IntKind.min,IntKind.max,IntKind.signed,IntKind.bits,Bool.and_eq_true]
  constructor
  · simpa using h0
  · have:x≤(2 ^ 8:Int) - 1:=by omega
    simpa using this
theorem wf_u64 {x:Int} (h0:0≤x) (h1:x≤18446744073709551615):(Lit.int .u64 x).wf=true:=by
  unfold Lit.wf
  simp only [IntKind.min,IntKind.max,IntKind.signed,IntKind.bits,Bool.and_eq_true]
  constructor
  · simpa using h0
  · have:x≤(2 ^ 64:Int) - 1:=by omega
    simpa using this
theorem kd_mac {m:List Int} (hl:m.length=6) (hb:∀ x,x∈m→0≤x∧x≤255):kdOf Tryz.prog 23 (macV m):=by
  refine kd_agg (by kernel_rfl) (by kernel_rfl) (by rw [show Tryz.prog.cellsOf 23=6 from by kernel_rfl];simp [hl]) ?_
  obtain ⟨d,hd⟩:∃ d,Tryz.prog.types.size=d + 1:=⟨_,show Tryz.prog.types.size=(Tryz.prog.types.size - 1) + 1 from by kernel_rfl⟩
  rw [hd,List.toList_toArray]
  exact lits_arr (e:=5) (n:=6) (q:=.u8) (by kernel_rfl) (by kernel_rfl) (by kernel_rfl) (by kernel_rfl) hl (fun x hx=>wf_u8 (hb x hx).1 (hb x hx).2) d
noncomputable def fsAd:Array Field:=match Tryz.prog.underlying 42 with
  | some (.struct fs)=>fs
  | _=>#[]
theorem fields_ad : ∃ f1 f2 f3 : Field, Tryz.prog.underlying 42 = some (.struct #[f1, f2, f3]) ∧ f1.offset = 0 ∧ f2.offset = 1 ∧ f3.offset = 2 ∧ f1.type = 4 ∧ f2.type = 40 ∧ f3.type = 40 ∧ (f1.name != "_") = true ∧ (f2.name != "_") = true ∧ (f3.name != "_") = true :=
  ⟨fsAd[0]!,fsAd[1]!,fsAd[2]!,by kernel_rfl,by kernel_rfl,by kernel_rfl,by kernel_rfl,by kernel_rfl,by kernel_rfl,by kernel_rfl,by kernel_rfl,by kernel_rfl,by kernel_rfl⟩
theorem kd_ad {a:Ad} (h0:0≤a.hi∧a.hi≤18446744073709551615) (h1:0≤a.lo∧a.lo≤18446744073709551615):kdOf Tryz.prog 42 (adV a):=by
  refine kd_agg (by kernel_rfl) (by kernel_rfl) (by rw [show Tryz.prog.cellsOf 42=3 from by kernel_rfl];rfl) ?_
  obtain ⟨d,hd⟩:∃ d,Tryz.prog.types.size=d + 1:=⟨_,show Tryz.prog.types.size=(Tryz.prog.types.size - 1) + 1 from by kernel_rfl⟩
  obtain ⟨f1,f2,f3,hf,o1,o2,o3,t1,t2,t3,n1,n2,n3⟩:=fields_ad
  rw [hd]
  have c3:Tryz.prog.cellsOf 42=3:=by kernel_rfl
  have cb:Tryz.prog.cellsOf 4=1:=by kernel_rfl
  have cu:Tryz.prog.cellsOf 40=1:=by kernel_rfl
  unfold Program.keyLits
  rw [hf]
  have l1:=lits_bool (P:=Tryz.prog) (t:=4) (by kernel_rfl) a.v6 d
  have l2:=lits_int (P:=Tryz.prog) (t:=40) (q:=.u64) (by kernel_rfl) (wf_u64 h0.1 h0.2) d
  have l3:=lits_int (P:=Tryz.prog) (t:=40) (q:=.u64) (by kernel_rfl) (wf_u64 h1.1 h1.2) d
  simp [c3,n1,n2,n3,o1,o2,o3,t1,t2,t3,cb,cu,l1,l2,l3,List.mapM_cons]
end Go.Proofs.YtcidmiacfjdepaaGreatDoor
namespace Go.Proofs.YtcidmiacfjdepaaGreatDoor
open Go.RowKit
theorem rep_bases {X:Nat→Prop} {w:World} {φ:Em} {v:Value} {us:List Value} (h:Rep X w φ v (.agg (us.map AV.base))):v=.agg us.toArray:=by
  cases h with
  | agg vs _ hl h1 h =>
    have hl2:vs.size=us.length:=by simpa using hl
    congr 1
    refine Array.ext (by simpa using hl2) fun i h2 h3=>?_
    have h4:i < us.length:=by simpa using h3
    have:=h i vs[i] (.base us[i]) (by simp [h2]) (by simp [h4])
    simpa using this.base_eq
theorem LO.eq_bases {P:Program} {o:Oper} {E:Operand→Option AV} {H:Hp} {f:Nat} {t ty:TypeId} {x y:Operand} {r:Bool} (neg:Bool) (us vs:List Value) {xs ys:List AV} (ho:o.op=.binOp (if neg then .neq else .eql) t x y ty) (hx:E x=some (.agg xs)) (hy:E y=some (.agg ys)) (e1:xs=us.map AV.base) (e2:ys=vs.map AV.base)
    (hg:∀ w,(eqGuard (if neg then .neq else .eql) t x y (.agg us.toArray) (.agg vs.toArray)).run P w=.ok () w) (h:∀ w,(Op.equal t (.agg us.toArray) (.agg vs.toArray)).run P w=.ok r w):LO P o E H f [] [] (.base (.bool (if neg then !r else r))) H:=by
  subst e1 e2
  refine .pure fun X φ w ρ hR=>?_
  have h1:=rep_bases (hR x (by simp [ho,Op.operands]) _ hx)
  have h2:=rep_bases (hR y (by simp [ho,Op.operands]) _ hy)
  refine ⟨.bool (if neg then !r else r),?_,.base _⟩
  cases neg
  · have hg2:=hg w
    simp only [Bool.false_eq_true,if_false] at hg2 ho
    simp [execOp,ho,h1,h2,hg2,Go.binOp,h]
  · have hg2:=hg w
    simp only [if_true] at hg2 ho
    simp [execOp,ho,h1,h2,hg2,Go.binOp,h]
theorem guard_run {t:TypeId} {us vs:Array Value} (x y:Operand) (b:Bool) (h:Tryz.prog.eqGuardType Tryz.prog.depth t=false) (w:World):(eqGuard (if b then .neq else .eql) t x y (.agg us) (.agg vs)).run Tryz.prog w=.ok () w:=by
  cases b<;>simp [eqGuard,h]
def eqA (a b:Ad):Bool:=a.v6 == b.v6 && (a.hi == b.hi && a.lo == b.lo)
theorem eqA_iff {a b:Ad}:eqA a b=true↔a=b:=by
  obtain ⟨a1,a2,a3⟩:=a
  obtain ⟨b1,b2,b3⟩:=b
  simp [eqA]
theorem eqAd_in (d:Nat) (a b:Ad) (w:World):(Op.equalIn (d + 2) 42 (.agg #[.bool a.v6,.int .u64 a.hi,.int .u64 a.lo]) (.agg #[.bool b.v6,.int .u64 b.hi,.int .u64 b.lo])).run Tryz.prog w=.ok (eqA a b) w:=by
  rw [run_equalIn_struct w (d + 1) 42 _ _ (by kernel_rfl) (by kernel_rfl)]
  have hu:=Tryz.underlying42
  have hb:=Tryz.underlying4
  have hi:=Tryz.underlying40
  simp [Program.fieldsOf,hu,Op.eqFields,part,isAgg,run_underlying hb,run_underlying hi,run_equalIn_bool' _ _ _ _ _ hb,run_equalIn_int _ _ _ _ _ _ _ hi]
  unfold eqA
  by_cases h1:a.v6=b.v6<;>by_cases h2:a.hi=b.hi<;>by_cases h3:a.lo=b.lo<;>simp [h1,h2,h3]
theorem eqMac_in (d:Nat) {a b:List Int} (ha:a.length=6) (hb:b.length=6) (w:World):(Op.equalIn (d + 2) 23 (.agg (a.map (Value.int .u8)).toArray) (.agg (b.map (Value.int .u8)).toArray)).run Tryz.prog w=.ok (decide (a=b)) w:=by
  have hu:=Tryz.underlying23
  have hi:=Tryz.underlying5
  match a,ha,b,hb with
  | [a0,a1,a2,a3,a4,a5],_,[b0,b1,b2,b3,b4,b5],_ =>
    have hsz:∀ w:World,(sizeOf 5).run Tryz.prog w=.ok 1 w:=fun w=>(ty5).sizeOf w
    unfold Op.equalIn
    simp [run_underlying hu,hsz,part,isAgg,run_underlying hi,run_equalIn_int _ _ _ _ _ _ _ hi,Std.Legacy.Range.forIn_eq_forIn_range',Std.Legacy.Range.size,List.range'_succ]
    by_cases h0:a0=b0<;>by_cases h1:a1=b1<;>by_cases h2:a2=b2<;>by_cases h3:a3=b3<;>by_cases h4:a4=b4<;>by_cases h5:a5=b5<;>simp [h0,h1,h2,h3,h4,h5]
/-- messages -/
structure Nb where
  k:Int
  fl:Int
  tg:Ad
  has:Bool
  ln:List Int
def nbC (n:Nb):List AV:=[.base (.int .i64 n.k),.base (.int .i64 n.fl)]++adC n.tg++[.base (.bool n.has)]++bytesC n.ln
section
variable {o:Oper} {E:Operand→Option AV} {H:Hp} {f:Nat} {ty:TypeId} {x y:Operand}
theorem LO.eql_ad (a b:Ad) (ho:o.op=.binOp .eql 42 x y ty) (hx:E x=some (.agg (adC a))) (hy:E y=some (.agg (adC b))):LO Tryz.prog o E H f [] [] (.base (.bool (eqA a b))) H :=
  LO.eq_bases false [.bool a.v6,.int .u64 a.hi,.int .u64 a.lo] [.bool b.v6,.int .u64 b.hi,.int .u64 b.lo] ho hx hy rfl rfl (guard_run x y false (by kernel_rfl)) (eqAd_in 9998 a b)
theorem LO.neq_ad (a b:Ad) (ho:o.op=.binOp .neq 42 x y ty) (hx:E x=some (.agg (adC a))) (hy:E y=some (.agg (adC b))):LO Tryz.prog o E H f [] [] (.base (.bool (!eqA a b))) H :=
  LO.eq_bases true [.bool a.v6,.int .u64 a.hi,.int .u64 a.lo] [.bool b.v6,.int .u64 b.hi,.int .u64 b.lo] ho hx hy rfl rfl (guard_run x y true (by kernel_rfl)) (eqAd_in 9998 a b)
theorem bytesC_bases (l:List Int):bytesC l=(l.map (Value.int .u8)).map AV.base:=by simp [bytesC]
theorem LO.neq_mac (a b:List Int) (ha:a.length=6) (hb:b.length=6) (ho:o.op=.binOp .neq 23 x y ty) (hx:E x=some (.agg (bytesC a))) (hy:E y=some (.agg (bytesC b))):LO Tryz.prog o E H f [] [] (.base (.bool (!decide (a=b)))) H :=
  LO.eq_bases true (a.map (Value.int .u8)) (b.map (Value.int .u8)) ho hx hy (bytesC_bases a) (bytesC_bases b) (guard_run x y true (by kernel_rfl)) (eqMac_in 9998 ha hb)
end
end Go.Proofs.YtcidmiacfjdepaaGreatDoor
