/-
  Lists of numbers that are searched; records that are written in rows. Further operations: addresses of both kinds and prefixes compared. A Builder: made, its pointer turned about. Further operations, carried out: copies, conversions, parts of own arrays. Two great arrays among the types.
-/
import Derived.Test.YtndbhhgmpjjjhaaGreatDoorMj
import Derived.Test.YtndbhhgmpjjjhaaGreatDoorMab
import Derived.Test.YtndbhhgmpjjjhaaGreatDoorVw
import Derived.Test.YtndbhhgmpjjjhaaGreatDoorQf
import Derived.Lib.Builder
namespace Go.Proofs.YtndbhhgmpjjjhaaGreatDoor
open Go.RowKit
def ixF (x:Int):List Int→Nat→Int
 | [],_=>-1
 | y::l,k=>if x=y then (k:Int) else ixF x l (k + 1)
theorem ixF_ge (x:Int):∀ (l:List Int) (k:Nat),0≤ixF x l k↔x∈l:=by
 intro l
 induction l with
 | nil=>intro k;simp [ixF]
 | cons y l ih =>
  intro k
  unfold ixF
  by_cases h:x=y
  ·rw [if_pos h];simp [h]
  ·rw [if_neg h,ih];simp [h]
theorem ints_at {l:List Int} {k:Nat} (h:k < l.length):(intsC l)[k * 1]?=some (.base (.int .i64 l[k])):=by simp [intsC,h]
theorem index_any (l:List Int) (x0:Int) (hl:l.length≤1000):AFn Tryz.prog 82 0 [.isl (intsC l) l.length,.base (.int .i64 x0)] mt (.base (.int .i64 (ixF x0 l 0))) mt:=by
 refine AFn.eq Tryz.func82 rfl rfl (Nat.le_of_ble_eq_true rfl) ?_
 obtain ⟨R,hR⟩:∃ R,ixF x0 l 0=R:=⟨_,rfl⟩
 rw [hR]
 refine Wq<|qW 0 1 rfl<|qA rfl<|Nl<|Wq<|Wq<|qW 5 8 rfl<|qM rfl<|qH rfl ty22<|qM rfl<|Nl<|Wb<|W.rename [] 0 (T':=up (up (up (up mt 0 (some (.isl (intsC l) l.length))) 1 (some (.base (.int .i64 x0)))) 7 (some (.base (.int .i64 (l.length:Int))))) 8 (some (.base (.int .i64 (0:Int))))) (H':=mt) (by decide) ?_ ?_ ?_
 ·exact aU (lR rfl) (aU (lR rfl) (aU (lR rfl) (aU (lR rfl) aM)))
 ·exact aM
 refine W.loop_ind (α:=Nat) (fun x=>l.length - x) 0 (fun x=>up (up (up (up mt 0 (some (.isl (intsC l) l.length))) 1 (some (.base (.int .i64 x0)))) 7 (some (.base (.int .i64 (l.length:Int))))) 8 (some (.base (.int .i64 (x:Int))))) (fun x=>mt) (fun x=>x≤l.length∧ixF x0 (l.drop x) x=R) 0 (show 0≤l.length∧ixF x0 (l.drop 0) 0=R from ⟨Nat.zero_le _,hR⟩) ?_
 rintro k hIA ihA
 try (dsimp only at hIA)
 try dsimp only
 obtain ⟨hk,hI⟩:=hIA
 by_cases hc:k < l.length
 ·have g1:decide ((k:Int) < (l.length:Int))=true:=decide_eq_true (by omega)
  have hkk:(k:Int) + 1=((k + 1:Nat):Int):=by omega
  have hat:=ints_at hc
  rw [List.drop_eq_getElem_cons hc] at hI
  obtain ⟨y,hy⟩:∃ y,l[k]=y:=⟨_,rfl⟩
  rw [hy] at hat hI
  unfold ixF at hI
  refine Wq<|qW 12 13 rfl<|qK rfl<|Nl<|Wq<|Wt rfl ‹_›<|Wu<|Wq<|Wb<|Wq<|qW 17 19 rfl<|qM rfl<|qA rfl<|Nl ?_
  by_cases hxy:x0=y
  ·have g2:(x0 == y)=true:=by simp [hxy]
   rw [if_pos hxy] at hI
   refine Wq<|qW 23 29 rfl<|qM rfl<|qM rfl<|qM rfl<|qJ rfl rfl ty22 ty3 (by omega)<|Od rfl rfl (Li rfl rfl hat ty3 rfl)<|qE rfl<|Nl<|Wt rfl ‹_›<|Wq<|qW 33 35 rfl<|qM rfl<|qA rfl<|Nl<|Wz ⟨.inl rfl,_,mt,(Rc (Rt0 rfl) Rv),aM,?_⟩
   exact ⟨by rw [hI];rfl,rfl⟩
  ·have g2:(x0 == y)=false:=by simp [hxy]
   rw [if_neg hxy] at hI
   refine Wq<|qW 23 29 rfl<|qM rfl<|qM rfl<|qM rfl<|qJ rfl rfl ty22 ty3 (by omega)<|Od rfl rfl (Li rfl rfl hat ty3 rfl)<|qE rfl<|Nl<|Wo rfl ‹_›<|Wu<|qW 39 41 rfl<|qZ rfl (iW _ (by omega))<|qM rfl<|Nl ?_
   rw [hkk]
   refine WL.rename [] 0 (by decide) ?_ ?_ (ihA (k + 1) (show l.length - (k + 1) < l.length - k from by omega) (show (k + 1)≤l.length∧ixF x0 (l.drop (k + 1)) (k + 1)=R from ⟨by omega,hI⟩))
   ·exact aU (lR rfl) (aU (lR rfl) (aU (lR rfl) (aU (lR rfl) aM)))
   ·exact aM
 ·have g1:decide ((k:Int) < (l.length:Int))=false:=decide_eq_false (by omega)
  rw [List.drop_eq_nil_of_le (by omega)] at hI
  refine Wq<|qW 12 13 rfl<|qK rfl<|Nl<|Wq<|Wo rfl ‹_›<|Wx<|Wq<|qW 45 46 rfl<|qA rfl<|Nl<|Wz ⟨.inl rfl,_,mt,(Rc (Rt0 rfl) Rv),aM,?_⟩
  exact ⟨by rw [← hI];rfl,rfl⟩
theorem contains_ints (l:List Int) (x0:Int) (hl:l.length≤1000):AFn Tryz.prog 43 0 [.isl (intsC l) l.length,.base (.int .i64 x0)] mt (.base (.bool (decide (x0∈l)))) mt:=by
 refine AFn.eq Tryz.func43 rfl rfl (Nat.le_of_ble_eq_true rfl) ?_
 have h1:=index_any l x0 hl
 have h2:decide (ixF x0 l 0 ≥ 0)=decide (x0∈l):=by
  by_cases h:x0∈l
  ·rw [decide_eq_true h,decide_eq_true ((ixF_ge x0 l 0).2 h)]
  ·rw [decide_eq_false h,decide_eq_false fun h3=>h ((ixF_ge x0 l 0).1 h3)]
 refine Wq<|qW 0 1 rfl<|qA rfl<|Nl<|Wq<|qW 5 10 rfl<|qM rfl<|qM rfl<|qY rfl (h1) fok82 rfl<|qGe rfl<|qA rfl<|Nl<|Wz ⟨.inl rfl,_,mt,(Rc (Rt0 rfl) Rv),aM,?_⟩
 exact ⟨by rw [h2];rfl,rfl⟩
theorem take_s1 {α:Type} {l:List α} {k:Nat} (h:k < l.length):l.take (k + 1)=l.take k++[l[k]]:=by
 rw [List.take_add_one,List.getElem?_eq_getElem h];rfl
theorem Sp.shift {cs ns cs':List AV} {k:Nat} (h:Sp cs k ns cs'):∀ p:List AV,Sp (p++cs) (p.length + k) ns (p++cs'):=by
 intro p
 induction p with
 | nil=>simpa using h
 | cons a p ih =>
  have:=Sp.skip (c:=a) ih
  rw [show (a::p).length + k=p.length + k + 1 from by simp;omega]
  exact this
theorem Sp.head {a b r:List AV} (h:a.length=b.length):Sp (a++r) 0 b (b++r):=by
 have:=Sp.of (a++r) 0 b (by simp;omega)
 rwa [List.take_zero,List.nil_append,Nat.zero_add,← h,List.drop_left] at this
theorem flat_sp {α:Type} {c:α→List AV} {n:Nat} (hc:∀ x,(c x).length=n) (v:α):∀ (l:List α) (i:Nat),i < l.length→Sp (l.flatMap c) (i * n) (c v) ((l.set i v).flatMap c):=by
 intro l
 induction l with
 | nil=>intro i h;simp at h
 | cons x l ih =>
  intro i h
  cases i with
  | zero =>
   rw [Nat.zero_mul]
   exact Sp.head (a:=c x) (b:=c v) (by rw [hc,hc])
  | succ i =>
   have:=(ih i (by simpa using h)).shift (c x)
   rw [hc] at this
   rw [show (i + 1) * n=n + i * n from by rw [Nat.succ_mul];omega]
   exact this
theorem objs_sp {l:List ObjR} {i:Nat} (v:ObjR) (h:i < l.length):Sp (objsC l) (0 + i * 6) (objC v) (objsC (l.set i v)):=by
 rw [Nat.zero_add]
 exact flat_sp (c:=objC) (fun _=>rfl) v l i h
theorem objs_tk0 {l:List ObjR} {k:Nat} (h:k < l.length):Tk (objsC l) (0 + k * 6) 6 (objC l[k]):=by rw [Nat.zero_add];exact objs_tk h
theorem objsC_len (l:List ObjR):(objsC l).length=l.length * 6:=flatLen (c:=objC) (fun _=>rfl) l
theorem objsC_ne {l:List ObjR} (h:0 < l.length):objsC l≠[]:=fun e=>by have:=objsC_len l;rw [e] at this;simp at this;omega
def ozC:List AV:=[.base (.bool false),.base (.int .u64 0),.base (.int .u64 0),.base (.int .i64 0),.base (.int .i64 0),.base (.int .i64 0)]
theorem objs_clr {l:List ObjR} {i:Nat} (h:i≤l.length):Cp (objsC l) (0 + i * 6) (zerosL (l.length - i) ozC) (objsC (l.take i)++zerosL (l.length - i) ozC):=fun j c hj=>by
 have ht:(objsC (l.take i)).length=i * 6:=by rw [objsC_len,List.length_take,Nat.min_eq_left h]
 rcases Nat.lt_or_ge j (i * 6) with h1|h1
 ·refine .inr ⟨.inl (by omega),?_⟩
  rw [List.getElem?_append_left (by omega)] at hj
  have:objsC l=objsC (l.take i)++objsC (l.drop i):=by rw [← objsC_app,List.take_append_drop]
  rw [this,List.getElem?_append_left (by omega)]
  exact hj
 ·refine .inl ⟨by omega,?_⟩
  rw [List.getElem?_append_right (by omega),ht] at hj
  rwa [Nat.zero_add]
theorem objs_pre {l:List ObjR} {cs:List AV} {n:Nat} (h:l.length=n):Tk (objsC l++cs) 0 (n * 6) (objsC l):=⟨by rw [objsC_len,h],fun j c hj=>by
 rw [Nat.zero_add,List.getElem?_append_left (List.getElem?_eq_some_iff.1 hj).1]
 exact hj⟩
end Go.Proofs.YtndbhhgmpjjjhaaGreatDoor
namespace Go.Proofs.YtndbhhgmpjjjhaaGreatDoor
open Go.RowKit
def eqP4 (a b:Ad) (m n:Int):Bool:=eqA a b && m == n
theorem eqP4_in (d:Nat) (a b:Ad) (m n:Int) (w:World):(Op.equalIn (d + 3) 36 (.agg #[.bool a.v6,.int .u64 a.hi,.int .u64 a.lo,.int .i64 m]) (.agg #[.bool b.v6,.int .u64 b.hi,.int .u64 b.lo,.int .i64 n])).run Tryz.prog w=.ok (eqP4 a b m n) w:=by
 rw [run_equalIn_struct w (d + 2) 36 _ _ (by kernel_rfl) (by kernel_rfl)]
 have hu:=Tryz.underlying36
 have hua:=Tryz.underlying34
 have hi:=Tryz.underlying3
 have sa:∀ w:World,(sizeOf 34).run Tryz.prog w=.ok 3 w:=fun w=>(ty34).sizeOf w
 have ea:=fun w=>eqAd_in d a b w
 simp [Program.fieldsOf,hu,Op.eqFields,part,isAgg,run_underlying hua,run_underlying hi,sa,run_equalIn_int _ _ _ _ _ _ _ hi,ea]
 unfold eqP4
 by_cases h:m=n<;>cases eqA a b<;>simp [h]
section
variable (o:Oper) (E:Operand→Option AV) (L:HL) (N:Nat)
def notB (neg b:Bool):Bool:=if neg then !b else b
def eAggCmp (neg:Bool) (t:TypeId) (x y:Operand):Option Res:=match E x,E y with
 | some (.agg [.base (.bool v),.base (.int .u64 h),.base (.int .u64 l)]),some (.agg [.base (.bool v'),.base (.int .u64 h'),.base (.int .u64 l')])=>match Nat.beq t 34 with
  | true=>some ⟨[],[],.base (.bool (notB neg (eqA { v6:=v,hi:=h,lo:=l } { v6:=v',hi:=h',lo:=l' }))),L⟩
  | false=>none
 | some (.agg [.base (.bool v),.base (.int .u64 h),.base (.int .u64 l),.base (.int .i64 m)]),some (.agg [.base (.bool v'),.base (.int .u64 h'),.base (.int .u64 l'),.base (.int .i64 m')])=>match Nat.beq t 36 with
  | true=>some ⟨[],[],.base (.bool (notB neg (eqP4 { v6:=v,hi:=h,lo:=l } { v6:=v',hi:=h',lo:=l' } m m'))),L⟩
  | false=>none
 | some (.agg [.base (.int .u8 a0),.base (.int .u8 a1),.base (.int .u8 a2),.base (.int .u8 a3),.base (.int .u8 a4),.base (.int .u8 a5)]),some (.agg [.base (.int .u8 b0),.base (.int .u8 b1),.base (.int .u8 b2),.base (.int .u8 b3),.base (.int .u8 b4),.base (.int .u8 b5)])=>match Nat.beq t 93 with
  | true=>some ⟨[],[],.base (.bool (notB neg (decide ([a0,a1,a2,a3,a4,a5]=[b0,b1,b2,b3,b4,b5])))),L⟩
  | false=>none
 | _,_=>none
theorem eAggCmp_ok {neg:Bool} {t ty:TypeId} {x y:Operand} {R:Res} (ho:o.op=.binOp (if neg then .neq else .eql) t x y ty) (h:eAggCmp E L neg t x y=some R):LO Tryz.prog o E (lkH L) N R.rd R.wr R.v (lkH R.L):=by
 unfold eAggCmp at h
 split at h<;>first|(cases h;done)|skip
 ·rename_i v hh l v' h' l' hx hy
  split at h<;>first|(cases h;done)|skip
  rename_i ht
  have:=Nat.eq_of_beq_eq_true ht
  subst this
  injection h with h;subst h
  exact LO.eqBases neg [.bool v,.int .u64 hh,.int .u64 l] [.bool v',.int .u64 h',.int .u64 l'] ho hx hy rfl rfl (guardRun x y neg (by kernel_rfl)) (eqAd_in 9998 { v6:=v,hi:=hh,lo:=l } { v6:=v',hi:=h',lo:=l' })
 ·rename_i v hh l m v' h' l' m' hx hy
  split at h<;>first|(cases h;done)|skip
  rename_i ht
  have:=Nat.eq_of_beq_eq_true ht
  subst this
  injection h with h;subst h
  exact LO.eqBases neg [.bool v,.int .u64 hh,.int .u64 l,.int .i64 m] [.bool v',.int .u64 h',.int .u64 l',.int .i64 m'] ho hx hy rfl rfl (guardRun x y neg (by kernel_rfl)) (eqP4_in 9997 { v6:=v,hi:=hh,lo:=l } { v6:=v',hi:=h',lo:=l' } m m')
 ·rename_i a0 a1 a2 a3 a4 a5 b0 b1 b2 b3 b4 b5 hx hy
  split at h<;>first|(cases h;done)|skip
  rename_i ht
  have:=Nat.eq_of_beq_eq_true ht
  subst this
  injection h with h;subst h
  exact LO.eqBases neg ([a0,a1,a2,a3,a4,a5].map (Value.int .u8)) ([b0,b1,b2,b3,b4,b5].map (Value.int .u8)) ho hx hy rfl rfl (guardRun x y neg (by kernel_rfl)) (eqMac_in 9998 rfl rfl)
end
end Go.Proofs.YtndbhhgmpjjjhaaGreatDoor
namespace Go.Proofs.YtndbhhgmpjjjhaaGreatDoor
open Go.RowKit
section
variable {P:Program} {o:Oper} {E:Operand→Option AV} {H:Hp} {f:Nat} {t:TypeId} {l:Lay} {size bytes:Nat} {zs:List AV} {x:Operand}
theorem LO.allocT (ho:o.op=.alloc t) (ht:TyOK P t l size bytes (.base (.pointer none)::zs)):LO P o E H f [] [f] (.own f 0) (up H f (some (.tyOf f t size::zs))):=by
 obtain ⟨z,hz,hzs,hzm,hzl,h1⟩:=ht.zeroV
 refine ⟨fun r hr=>up_ne (by simpa using hr),fun E' K hE hK X φ w ρ hR hst hf=>?_⟩
 rw [ovr_one]
 have hg:=(Good.zero (X:=X) (w:=w) (φ:=φ) hzm h1).2
 have hrun:(execOp ρ o).run P w=.ok (.value (.pointer (some ⟨w.heap.size,0,none⟩))) (w.alloc (.cells z.cells t)):=by
  simp [execOp,ho,Instr.alloc,hz,newVar,newRow,newObj,Sem.run,Pure.pure]
 have hnew:(w.alloc (.cells z.cells t)).heap[w.heap.size]?=some (.cells z.cells t (0,0)):=heap_alloc_new w _
 have hbst:bst (w.alloc (.cells z.cells t)) w.heap.size=(size + 1,t + 1):=by
  unfold bst
  rw [bsz_of hnew]
  unfold bel
  rw [hnew]
  rw [hzs]
 obtain ⟨k1,k2,k3,k4⟩:=hst.freshB (w':=w.alloc (.cells z.cells t)) (ob:=.cells z.cells t) (cs:=.tyOf f t size::zs) hf rfl rfl rfl rfl fun hk=>.cells z.cells t hnew fun j a hj=>by
  match j with
  | 0 =>
   simp at hj
   subst hj
   obtain ⟨_,u,hu,hr⟩:=hg 0 _ rfl
   rw [hr.base_eq] at hu
   exact ⟨rfl,.pointer none,hu,.tyOf f t size w.heap.size (if_pos rfl) hbst⟩
  | j + 1 =>
   obtain ⟨g1,u,g2,g3⟩:=hg (j + 1) a (by simpa using hj)
   exact ⟨g1,u,by rw [Nat.zero_add];exact g2,hk _ _ g3⟩
 unfold OpW
 rw [hrun]
 refine ⟨_,_,k1,k2,.own f 0 w.heap.size 0 k4 ?_⟩
 rw [bsz_of hnew]
 omega
theorem tyOf_at {X:Nat→Prop} {φ:Em} {w:World} {K:Hp} {r n b o':Nat} (hst:St X φ K w) (hK:K r=some (.tyOf r t n::zs)) (hp:φ r=some (b,o')) (h0:0 < bsz w b):o'=0∧w.shape? b=some (t,n):=by
 obtain ⟨c,el,hX,hcell,hcs⟩:=hst.cells hK hp h0
 obtain ⟨_,u,hu,hr⟩:=hcs 0 _ rfl
 cases hr with
 | tyOf _ _ _ b2 h1 h2 =>
  rw [hp] at h1
  injection h1 with h1
  injection h1 with e1 e2
  subst e1 e2
  have e3:bsz w b=n + 1:=congrArg Prod.fst h2
  have e4:bel w b=t + 1:=congrArg Prod.snd h2
  rw [bsz_of hcell] at e3
  unfold bel at e4
  rw [hcell] at e4
  simp only [Nat.add_right_cancel_iff] at e3 e4
  refine ⟨rfl,?_⟩
  simp [World.shape?,hcell,e3,e4]
theorem LO.toUnsafe {r n s d te:Nat} {j:TypeInfo} (ho:o.op=.convert s d x) (hx:E x=some (.own r 0)) (hH:H r=some (.tyOf r t n::zs)) (hn:0 < n) (hs:P.underlying s=some (.pointer te)) (hd:P.underlying d=some .unsafePointer) (ht:P.info? te=some j) (hj:j.size≠0):LO P o E H f [r] [] (.own r 0) H :=
 .read r fun X φ w ρ K hR hK hst=>by
  obtain ⟨b,o',hp,e1,hb0⟩:=(hR x (by simp [ho,Op.operands]) _ hx).own_inv
  obtain ⟨rfl,hsh⟩:=tyOf_at hst (hK.trans hH) hp hb0
  have hrun:=Lib.run_to_unsafe (P:=P) w ⟨b,0 + 0,none⟩ hs hd ht hj hsh (by simpa using hn)
  exact ⟨_,by simp only [execOp,ho,e1,Sem.run_bind,hrun,Result.andThen_ok,Sem.run_pure],.own r 0 b 0 hp hb0⟩
theorem LO.fromUnsafe {r n s d u:Nat} {j:TypeInfo} (ho:o.op=.convert s d x) (hx:E x=some (.own r 0)) (hH:H r=some (.tyOf r t n::zs)) (hs:P.underlying s=some .unsafePointer) (hd:P.underlying d=some (.pointer u)) (hu:P.info? u=some j) (hl:liesAt P P.depth t (n / P.cellsOf t) 0 u 1=true):LO P o E H f [r] [] (.own r 0) H :=
 .read r fun X φ w ρ K hR hK hst=>by
  obtain ⟨b,o',hp,e1,hb0⟩:=(hR x (by simp [ho,Op.operands]) _ hx).own_inv
  obtain ⟨rfl,hsh⟩:=tyOf_at hst (hK.trans hH) hp hb0
  have hrun:=Lib.run_from_unsafe (P:=P) w ⟨b,0 + 0,none⟩ hs hd hu hsh hl
  exact ⟨_,by simp only [execOp,ho,e1,Sem.run_bind,hrun,Result.andThen_ok,Sem.run_pure],.own r 0 b 0 hp hb0⟩
end
end Go.Proofs.YtndbhhgmpjjjhaaGreatDoor
namespace Go.Proofs.YtndbhhgmpjjjhaaGreatDoor
open Go.RowKit
def cpE (cs:List AV) (k:Nat) (ns:List AV):Option (List AV):=match spE cs k ns with
 | some r=>some r
 | none=>match Nat.beq k cs.length with
  | true=>some (cs++ns)
  | false=>none
theorem cpE_ok {cs ns cs':List AV} {k:Nat} (h:cpE cs k ns=some cs'):Cp cs k ns cs':=by
 unfold cpE at h
 split at h
 ·rename_i r hr
  injection h with h;subst h
  exact .of (spE_ok hr)
 ·split at h<;>first|(cases h;done)|skip
  rename_i hk
  injection h with h;subst h
  exact .app (Nat.eq_of_beq_eq_true hk)
section
variable {P:Program} (Y:Tys P) (o:Oper) (E:Operand→Option AV) (L:HL) (N:Nat)
def eCopy (t tx:TypeId) (x y:Operand):Option Res:=match E x,Y.tab t with
 | some (.osl r off len sz),some (.sl e,_,_,_)=>match Y.tab e with
  | some (_,sz',_,_)=>match Nat.beq sz sz' with
   | true=>match E y with
    | some (.osl r' off' m sz2)=>match Y.tab tx,lkH L r',lkH L r with
     | some (.sl _,_,_,_),some cs',some cs=>match Nat.beq sz sz2 && Nat.blt 0 sz && Nat.blt 0 m && Nat.ble m len with
      | true=>match tkE cs' off' (m * sz2) with
       | some ns=>match cpE cs off ns with
        | some cs2=>some ⟨[r'],[r],.base (.int .i64 (m:Int)),putH L r cs2⟩
        | none=>none
       | none=>none
      | false=>none
     | _,_,_=>none
    | some a=>match a.isl? with
     | some (_ns,0)=>some ⟨[],[],.base (.int .i64 0),L⟩
     | some (ns,m)=>match Y.tab tx,lkH L r with
      | some (.sl _,_,_,_),some cs=>match Nat.beq ns.length (m * sz) && Nat.blt 0 sz && Nat.blt 0 m && Nat.ble m len with
       | true=>match cpE cs off ns with
        | some cs2=>some ⟨[],[r],.base (.int .i64 (m:Int)),putH L r cs2⟩
        | none=>none
       | false=>none
      | _,_=>none
     | none=>none
    | none=>none
   | false=>none
  | none=>none
 | _,_=>none
theorem eCopy_ok {t tx:TypeId} {x y:Operand} {R:Res} (ho:o.op=.call { callee:=.builtin .copy,args:=#[x,y],argTypes:=#[t,tx] }) (h:eCopy Y E L t tx x y=some R):LO P o E (lkH L) N R.rd R.wr R.v (lkH R.L):=by
 unfold eCopy at h
 split at h<;>first|(cases h;done)|skip
 rename_i r off len sz e s b z hx ht
 split at h<;>first|(cases h;done)|skip
 rename_i l' sz' b' z' he
 split at h<;>first|(cases h;done)|skip
 rename_i hsz
 have:=Nat.eq_of_beq_eq_true hsz
 subst this
 split at h<;>first|(cases h;done)|skip
 ·rename_i r' off' m sz2 hy
  split at h<;>first|(cases h;done)|skip
  rename_i e2 s2 b2 z2 cs' cs htx hl' hl
  split at h<;>first|(cases h;done)|skip
  rename_i hg
  simp only [Bool.and_eq_true,Nat.blt_eq,Nat.ble_eq] at hg
  have:=Nat.eq_of_beq_eq_true hg.1.1.1
  subst this
  split at h<;>first|(cases h;done)|skip
  rename_i ns hns
  split at h<;>first|(cases h;done)|skip
  rename_i cs2 hs
  injection h with h;subst h
  simp only [lk_put]
  exact .copy ho hx (.own hy hl' (tkE_ok hns)) hl (cpE_ok hs) (Y.ok _ _ _ _ _ ht) (Y.ok _ _ _ _ _ htx) (Y.ok _ _ _ _ _ he) hg.1.1.2 hg.1.2 hg.2
 ·rename_i a _ hy
  split at h<;>first|(cases h;done)|skip
  ·rename_i ns ha
   injection h with h;subst h
   exact .copy_nil ho hx hy ha (Y.ok _ _ _ _ _ ht) (Y.ok _ _ _ _ _ he)
  ·rename_i ns m _ ha
   split at h<;>first|(cases h;done)|skip
   rename_i e2 s2 b2 z2 cs htx hl
   split at h<;>first|(cases h;done)|skip
   rename_i hg
   simp only [Bool.and_eq_true,Nat.blt_eq,Nat.ble_eq] at hg
   split at h<;>first|(cases h;done)|skip
   rename_i cs2 hs
   injection h with h;subst h
   simp only [lk_put]
   exact .copy ho hx (.isl hy ha (Nat.eq_of_beq_eq_true hg.1.1.1)) hl (cpE_ok hs) (Y.ok _ _ _ _ _ ht) (Y.ok _ _ _ _ _ htx) (Y.ok _ _ _ _ _ he) hg.1.1.2 hg.1.2 hg.2
def bytesE:List AV→Option (List Int)
 | []=>some []
 | .base (.int .u8 z)::l=>match bytesE l with
  | some xs=>some (z::xs)
  | none=>none
 | _::_=>none
theorem bytesE_ok:∀ {l:List AV} {xs:List Int},bytesE l=some xs→l=xs.map fun z=>.base (.int .u8 z):=by
 intro l
 induction l with
 | nil=>intro xs h;injection h with h;subst h;rfl
 | cons a l ih =>
  intro xs h
  unfold bytesE at h
  split at h<;>first|(cases h;done)|skip
  ·rename_i hn;injection hn
  ·rename_i z l2 he
   split at h<;>first|(cases h;done)|skip
   rename_i xs2 hxs
   injection h with h;subst h
   injection he with e1 e2
   subst e1 e2
   rw [ih hxs];rfl
def eConv2 (s t:TypeId) (x:Operand):Option Res:=match Y.tab s,Y.tab t with
 | some (.sl e,_,_,_),some (.str,_,_,_)=>match Y.tab e with
  | some (.int .u8,_,_,_)=>match E x with
   | some (.osl r off n sz)=>match lkH L r with
    | some cs=>match Nat.beq sz 1 with
     | true=>match tkE cs off (n * 1) with
      | some vs=>match bytesE vs with
       | some xs=>some ⟨[r],[],.base (.string (strOfNums xs)),L⟩
       | none=>none
      | none=>none
     | false=>none
    | none=>none
   | some (.isl cs n)=>match bytesE cs with
    | some xs=>match Nat.beq xs.length n with
     | true=>some ⟨[],[],.base (.string (strOfNums xs)),L⟩
     | false=>none
    | none=>none
   | _=>none
  | _=>none
 | some (.str,_,_,_),some (.sl e,_,_,_)=>match Y.tab e with
  | some (.int .u8,_,_,_)=>match E x with
   | some (.base (.string ⟨⟨l⟩⟩))=>some ⟨[],[],.isl (l.map fun c=>.base (.int .u8 (c.toNat:Int))) l.length,L⟩
   | _=>none
  | _=>none
 | _,_=>none
theorem eConv2_ok {s t:TypeId} {x:Operand} {R:Res} (ho:o.op=.convert s t x) (h:eConv2 Y E L s t x=some R):LO P o E (lkH L) N R.rd R.wr R.v (lkH R.L):=by
 unfold eConv2 at h
 split at h<;>first|(cases h;done)|skip
 ·rename_i e s1 b1 z1 s2 b2 z2 hs ht
  split at h<;>first|(cases h;done)|skip
  rename_i s3 b3 z3 he
  split at h<;>first|(cases h;done)|skip
  ·rename_i r off n sz hx
   split at h<;>first|(cases h;done)|skip
   rename_i cs hl
   split at h<;>first|(cases h;done)|skip
   rename_i hsz
   have:=Nat.eq_of_beq_eq_true hsz
   subst this
   split at h<;>first|(cases h;done)|skip
   rename_i vs hv
   split at h<;>first|(cases h;done)|skip
   rename_i xs hxs
   injection h with h;subst h
   have e1:=bytesE_ok hxs
   have hv':=tkE_ok hv
   have hn:xs.length=n:=by have:=hv'.1;rw [e1,List.length_map] at this;omega
   subst hn
   rw [e1] at hv'
   exact .strO ho hx hl hv' (lay_sl (Y.ok _ _ _ _ _ hs)) (lay_int (Y.ok _ _ _ _ _ he)) (lay_str (Y.ok _ _ _ _ _ ht))
  ·rename_i cs n hx
   split at h<;>first|(cases h;done)|skip
   rename_i xs hxs
   split at h<;>first|(cases h;done)|skip
   rename_i hn
   have:=Nat.eq_of_beq_eq_true hn
   subst this
   injection h with h;subst h
   rw [bytesE_ok hxs] at hx
   exact .str ho hx (lay_sl (Y.ok _ _ _ _ _ hs)) (lay_int (Y.ok _ _ _ _ _ he)) (lay_str (Y.ok _ _ _ _ _ ht))
 ·rename_i s1 b1 z1 e s2 b2 z2 hs ht
  split at h<;>first|(cases h;done)|skip
  rename_i s3 b3 z3 he
  split at h<;>first|(cases h;done)|skip
  rename_i l hx
  injection h with h;subst h
  exact .toBytes (b:=⟨⟨l⟩⟩) ho hx (lay_str (Y.ok _ _ _ _ _ hs)) (lay_sl (Y.ok _ _ _ _ _ ht)) (lay_int (Y.ok _ _ _ _ _ he))
def eSliceAr (t:TypeId) (x:Operand) (lo hi:Option Operand):Option Res:=match E x,Y.tab t with
 | some (.own r off),some (.arr len e,_,_,_)=>match Y.tab e,lkH L r with
  | some (_,sz,_,_),some cs=>match bndE E lo 0,bndE E hi len with
   | some m,some n=>match Nat.ble m n && Nat.ble n len && Nat.ble (off + len * sz) cs.length && Nat.blt 0 cs.length with
    | true=>some ⟨[r],[],.osl r (off + m * sz) (n - m) sz,L⟩
    | false=>none
   | _,_=>none
  | _,_=>none
 | _,_=>none
theorem eSliceAr_ok {t:TypeId} {x:Operand} {lo hi:Option Operand} {R:Res} (ho:o.op=.slice t x lo hi none) (h:eSliceAr Y E L t x lo hi=some R):LO P o E (lkH L) N R.rd R.wr R.v (lkH R.L):=by
 unfold eSliceAr at h
 split at h<;>first|(cases h;done)|skip
 rename_i r off len e s b z hx ht
 split at h<;>first|(cases h;done)|skip
 rename_i l' sz b' z' cs he hl
 split at h<;>first|(cases h;done)|skip
 rename_i m n hm hn
 split at h<;>first|(cases h;done)|skip
 rename_i hg
 simp only [Bool.and_eq_true,Nat.ble_eq,Nat.blt_eq] at hg
 injection h with h;subst h
 exact .sliceAr ho hx hl hg.1.2 hg.2 (bndE_ok E hm) (bndE_ok E hn) hg.1.1.1 hg.1.1.2 (Y.ok _ _ _ _ _ ht) (Y.ok _ _ _ _ _ he)
def eToArr (t:TypeId) (x:Operand):Option Res:=match Y.tab t with
 | some (.arr n _,_,_,_)=>match Nat.blt 0 n with
  | true=>match E x with
   | some (.osl r off len _)=>match Nat.ble n len with
    | true=>some ⟨[],[],.own r off,L⟩
    | false=>none
   | some a=>match a.isl? with
    | some (cs,len)=>match Nat.ble n len with
     | true=>some ⟨[],[],.imm cs 0,L⟩
     | false=>none
    | none=>none
   | none=>none
  | false=>none
 | _=>none
theorem eToArr_ok {t:TypeId} {x:Operand} {R:Res} (ho:o.op=.sliceToArrayPointer t x) (h:eToArr Y E L t x=some R):LO P o E (lkH L) N R.rd R.wr R.v (lkH R.L):=by
 unfold eToArr at h
 split at h<;>first|(cases h;done)|skip
 rename_i n e s b z ht
 split at h<;>first|(cases h;done)|skip
 rename_i h0
 have h0:0 < n:=by simpa using h0
 split at h<;>first|(cases h;done)|skip
 ·rename_i r off len sz hx
  split at h<;>first|(cases h;done)|skip
  rename_i hl
  injection h with h;subst h
  exact .toArrO ho hx (Y.ok _ _ _ _ _ ht) h0 (Nat.le_of_ble_eq_true hl)
 ·rename_i a _ hx
  split at h<;>first|(cases h;done)|skip
  rename_i cs len ha
  split at h<;>first|(cases h;done)|skip
  rename_i hl
  injection h with h;subst h
  exact .toArr ho hx ha (Y.ok _ _ _ _ _ ht) h0 (Nat.le_of_ble_eq_true hl)
def eCap (t:TypeId) (x:Operand):Option Res:=match E x,Y.tab t with
 | some .nils,some (.sl _,_,_,_)=>some ⟨[],[],.base (.int .i64 0),L⟩
 | _,_=>none
theorem eCap_ok {t:TypeId} {x:Operand} {R:Res} (ho:o.op=.call { callee:=.builtin .cap,args:=#[x],argTypes:=#[t] }) (h:eCap Y E L t x=some R):LO P o E (lkH L) N R.rd R.wr R.v (lkH R.L):=by
 unfold eCap at h
 split at h<;>first|(cases h;done)|skip
 rename_i hx ht
 injection h with h;subst h
 exact .cap_nil ho hx (Y.ok _ _ _ _ _ ht)
end
end Go.Proofs.YtndbhhgmpjjjhaaGreatDoor
namespace Go.Proofs.YtndbhhgmpjjjhaaGreatDoor
open Go.RowKit
theorem tyG338:TyOK Tryz.prog 338 (.arr 256 4) 256 256 (List.replicate 256 (.base (.bool false))):=by unfold TyOK;kernel_rfl
theorem tyG399:TyOK Tryz.prog 399 (.arr 65 5) 65 65 (List.replicate 65 (.base (.int .u8 0))):=by unfold TyOK;kernel_rfl
end Go.Proofs.YtndbhhgmpjjjhaaGreatDoor
