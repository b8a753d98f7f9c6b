/-
  Parts of a list of objects are sorted: the same objects, as many (whatever their order). Further operations: addresses of both kinds and prefixes compared. A Builder: made, its pointer turned about. Further operations, carried out: copies, conversions, parts of own arrays. Two great arrays among the types.
-/
import Derived.Test.YtbfnfgpjgdbmeaaGreatDoorMf
import Derived.Test.YtbfnfgpjgdbmeaaGreatDoorMab
import Derived.Test.YtbfnfgpjgdbmeaaGreatDoorVw
import Derived.Test.YtbfnfgpjgdbmeaaGreatDoorQe
import Derived.Lib.Builder
namespace Go.Proofs.YtbfnfgpjgdbmeaaGreatDoor
open Go.RowKit
theorem SameO.swp {m l:List ObjR} (h:SameO m l) {i j:Nat} (hi:i < m.length) (hj:j < m.length):SameO ((m.set i m[j]).set j m[i]) l :=
 ⟨by simpa using h.len,fun o=>(List.set_set_perm hi hj).mem_iff.trans (h.mem o)⟩
theorem SameO.trans {a b c:List ObjR} (h:SameO a b) (k:SameO b c):SameO a c:=⟨h.len.trans k.len,fun o=>(h.mem o).trans (k.mem o)⟩
set_option maxHeartbeats 2000000 in
theorem insG_any (l:List ObjR) (a b:Nat) (hab:a≤b) (hb:b≤l.length) (hl:l.length≤1000):∃ v H',AFn Tryz.prog 212 1 [.osl 0 0 l.length 6,.base (.int .i64 (a:Int)),.base (.int .i64 (b:Int)),cmpFn] (up mt 0 (some (objsC l))) v H'∧∃ m:List ObjR,SameO m l∧v=.tup []∧H'=up mt 0 (some (objsC m)):=by
 refine AFn.ex Tryz.func212 rfl rfl (Nat.le_of_ble_eq_true rfl) ?_
 unfold cmpFn
 refine Wq<|qW 1 4 rfl<|qM rfl<|qZ rfl (iW _ (by omega))<|qA rfl<|Nl ?_
 rw [show (a:Int) + 1=((a + 1:Nat):Int) from by omega]
 refine Wb<|W.rename [(0,0)] 1 (by decide) ?_ ?_ (W.loop_ind (α:=Nat × List ObjR) (fun x=>b - x.1) 1 (fun x=>up (up (up (up (up mt 0 (some (.osl 0 0 l.length 6))) 1 (some (.base (.int .i64 (a:Int))))) 2 (some (.base (.int .i64 (b:Int))))) 3 (some (.base (.func (.func 88) #[] #[])))) 8 (some (.base (.int .i64 (x.1:Int))))) (fun x=>up mt 0 (some (objsC x.2))) (fun x=>a + 1≤x.1∧SameO x.2 l) ((a + 1),l) (show a + 1≤(a + 1)∧SameO l l from ⟨Nat.le_refl _,SameO.refl l⟩) ?_)
 ·exact aR (aR (aR (aR (aI aM))))
 ·exact aU (kP rfl (objsC_pure _)) aM
 rintro ⟨i,m⟩ hIA ihA
 try (dsimp only at hIA)
 try dsimp only
 obtain ⟨hi1,hm⟩:=hIA
 by_cases hc:i < b
 ·have g1:decide ((i:Int) < (b:Int))=true:=decide_eq_true (by omega)
  have hii:(i:Int) + 1=((i + 1:Nat):Int):=by omega
  refine Wq<|Wq<|qW 8 11 rfl<|qM rfl<|qM rfl<|qK rfl<|Nl<|Wt rfl ‹_›<|Wu<|Wq<|Wb<|Wq<|qW 15 17 rfl<|qM rfl<|qA rfl<|Nl<|Wb<|W.rename [(0,0)] 1 (by decide) ?_ ?_ (W.loop_ind (α:=Nat × List ObjR) (fun x=>x.1) 1 (fun x=>up (up (up (up (up (up mt 0 (some (.osl 0 0 l.length 6))) 1 (some (.base (.int .i64 (a:Int))))) 2 (some (.base (.int .i64 (b:Int))))) 3 (some (.base (.func (.func 88) #[] #[])))) 8 (some (.base (.int .i64 (i:Int))))) 9 (some (.base (.int .i64 (x.1:Int))))) (fun x=>up mt 0 (some (objsC x.2))) (fun x=>x.1≤i∧SameO x.2 l) (i,m) (show i≤i∧SameO m l from ⟨Nat.le_refl _,hm⟩) ?_)
  ·exact aR (aR (aR (aR (aR (aI aM)))))
  ·exact aU (kP rfl (objsC_pure _)) aM
  rintro ⟨j,m⟩ hIB ihB
  try (dsimp only at hIB)
  try dsimp only
  clear hm
  obtain ⟨hji,hm⟩:=hIB
  by_cases hj0:a < j
  ·obtain ⟨k,hk⟩:∃ k,j=k + 1:=⟨j - 1,by omega⟩
   have g2:decide ((j:Int) > (a:Int))=true:=decide_eq_true (by omega)
   have hjj:(j:Int) - 1=(k:Int):=by omega
   have hml:=hm.len
   have hk1:j < m.length:=by omega
   have hk0:k < m.length:=by omega
   have hkl:k < l.length:=by omega
   have hjl:j < l.length:=by omega
   have hsw:=hm.swp hk1 hk0
   have ht1:=objs_tk0 hk1
   have ht0:=objs_tk0 hk0
   have hs1:=objs_sp (l:=m) (i:=j) m[k] hk1
   have hs2:=objs_sp (l:=m.set j m[k]) (i:=k) m[j] (by simpa using hk0)
   have hcm:=compare_any m[j] m[k]
   generalize m[j]=p at hsw ht1 hs1 hs2 hcm
   generalize m[k]=q at hsw ht0 hs1 hs2 hcm
   rcases Int.lt_or_le (cmpO p q) 0 with hlt|hlt
   case' inl =>
    have g3:decide (cmpO p q < 0)=true:=decide_eq_true hlt
    refine Wq<|Wq<|Wd 21 38 (by decide) rfl mixed rfl<|qM rfl<|qM rfl<|qGt rfl<|qM rfl<|gM rfl ‹_›<|gM rfl ‹_›<|gM rfl ‹_›<|qU rfl ‹_› rfl (Ia rfl rfl rfl rfl ty30 ty40 (by omega))<|gG rfl ‹_› ty40 rfl ht1<|gM rfl ‹_›<|gM rfl ‹_›<|qU rfl ‹_› rfl (LO.sub_in rfl rfl rfl (iW _ (by omega)))<|qU rfl ‹_› rfl (Ia rfl rfl rfl hjj ty30 ty40 (by omega))<|gG rfl ‹_› ty40 rfl ht0<|qU rfl ‹_› rfl (LO.callF (fr:=[]) rfl rfl hcm fok88 (.cons rfl (.pure rfl) (.cons rfl (.pure rfl) .nil)) rfl)<|gK rfl ‹_›<|qT rfl ‹_› rfl<|Nl ⟨by kernel_rfl,(Wt rfl ‹_›<|Wu<|Wq<|Wb<|Wd 42 60 (by decide) rfl mixed rfl<|qM rfl<|qM rfl<|qM rfl<|qM rfl<|Od rfl rfl (LO.sub_in rfl rfl rfl (iW _ (by omega)))<|qM rfl<|qM rfl<|Od rfl rfl (LO.sub_in rfl rfl rfl (iW _ (by omega)))<|Od rfl rfl (Ia rfl rfl rfl hjj ty30 ty40 (by omega))<|qG rfl ty40 rfl ht0<|qM rfl<|qM rfl<|Od rfl rfl (Ia rfl rfl rfl rfl ty30 ty40 (by omega))<|qG rfl ty40 rfl ht1<|Od rfl rfl (Ia rfl rfl rfl rfl ty30 ty40 (by omega))<|qS rfl ty40 hs1 rfl<|Od rfl rfl (Ia rfl rfl rfl hjj ty30 ty40 (by omega))<|qS rfl ty40 hs2 rfl<|Nl ⟨by kernel_rfl,(qW 64 67 rfl<|qM rfl<|Od rfl rfl (LO.sub_in rfl rfl rfl (iW _ (by omega)))<|qA rfl<|Nl ?_)⟩)⟩
    rw [hjj]
    refine WL.rename [(0,0)] 1 (by decide) ?_ ?_ (ihB (k,((m.set j q).set k p)) (show k < j from by omega) (show k≤i∧SameO ((m.set j q).set k p) l from ⟨by omega,hsw⟩))
    ·exact aR (aR (aR (aR (aR (aI aM)))))
    ·exact aU (kP rfl (objsC_pure _)) aM
   case' inr =>
    have g3:decide (cmpO p q < 0)=false:=decide_eq_false (by omega)
    refine Wq<|Wq<|Wd 21 38 (by decide) rfl mixed rfl<|qM rfl<|qM rfl<|qGt rfl<|qM rfl<|gM rfl ‹_›<|gM rfl ‹_›<|gM rfl ‹_›<|qU rfl ‹_› rfl (Ia rfl rfl rfl rfl ty30 ty40 (by omega))<|gG rfl ‹_› ty40 rfl ht1<|gM rfl ‹_›<|gM rfl ‹_›<|qU rfl ‹_› rfl (LO.sub_in rfl rfl rfl (iW _ (by omega)))<|qU rfl ‹_› rfl (Ia rfl rfl rfl hjj ty30 ty40 (by omega))<|gG rfl ‹_› ty40 rfl ht0<|qU rfl ‹_› rfl (LO.callF (fr:=[]) rfl rfl hcm fok88 (.cons rfl (.pure rfl) (.cons rfl (.pure rfl) .nil)) rfl)<|gK rfl ‹_›<|qT rfl ‹_› rfl<|Nl ⟨by kernel_rfl,(Wo rfl ‹_›<|Wx ?_)⟩
    clear ihB
    refine qW 71 74 rfl<|qM rfl<|qZ rfl (iW _ (by omega))<|qA rfl<|Nl ?_
    rw [hii]
    refine WL.rename [(0,0)] 1 (by decide) ?_ ?_ (ihA ((i + 1),m) (show b - (i + 1) < b - i from by omega) (show a + 1≤(i + 1)∧SameO m l from ⟨by omega,hm⟩))
    ·exact aR (aR (aR (aR (aI aM))))
    ·exact aU (kP rfl (objsC_pure _)) aM
  ·have g2:decide ((j:Int) > (a:Int))=false:=decide_eq_false (by omega)
   clear ihB
   refine Wq<|Wq<|Wd 21 38 (by decide) rfl mixed rfl<|qM rfl<|qM rfl<|qGt rfl<|qM rfl<|qD rfl ‹_› rfl<|qD rfl ‹_› rfl<|qD rfl ‹_› rfl<|qD rfl ‹_› rfl<|qD rfl ‹_› rfl<|qD rfl ‹_› rfl<|qD rfl ‹_› rfl<|qD rfl ‹_› rfl<|qD rfl ‹_› rfl<|qD rfl ‹_› rfl<|qD rfl ‹_› rfl<|qD rfl ‹_› rfl<|qP rfl ‹_› rfl<|Nl ⟨by kernel_rfl,(Wo rfl rfl<|Wx<|qW 71 74 rfl<|qM rfl<|qZ rfl (iW _ (by omega))<|qA rfl<|Nl ?_)⟩
   rw [hii]
   refine WL.rename [(0,0)] 1 (by decide) ?_ ?_ (ihA ((i + 1),m) (show b - (i + 1) < b - i from by omega) (show a + 1≤(i + 1)∧SameO m l from ⟨by omega,hm⟩))
   ·exact aR (aR (aR (aR (aI aM))))
   ·exact aU (kP rfl (objsC_pure _)) aM
 ·have g1:decide ((i:Int) < (b:Int))=false:=decide_eq_false (by omega)
  refine Wq<|Wq<|qW 8 11 rfl<|qM rfl<|qM rfl<|qK rfl<|Nl<|Wo rfl ‹_›<|Wx ?_
  exact ⟨.inr rfl,_,up mt 0 (some (objsC m)),RVs.nil,all_up rfl all_mt,m,hm,rfl,rfl⟩
theorem order2_any (l:List ObjR) (a b:Nat) (s:Int) (ha:a < l.length) (hb:b < l.length) (hl:l.length≤1000) (hs:0≤s∧s≤100):∃ v H',AFn Tryz.prog 343 2 [.osl 0 0 l.length 6,.base (.int .i64 (a:Int)),.base (.int .i64 (b:Int)),.own 1 0,cmpFn] (up (up mt 1 (some [.base (.int .i64 s)])) 0 (some (objsC l))) v H'∧∃ (p q:Nat) (s':Int),(((p=a∧q=b)∨(p=b∧q=a))∧0≤s'∧s'≤s + 1)∧v=.tup [.base (.int .i64 (p:Int)),.base (.int .i64 (q:Int))]∧H'=(up (up mt 1 (some [.base (.int .i64 s')])) 0 (some (objsC l))):=by
 have _:=hl
 refine AFn.ex Tryz.func343 rfl rfl (Nat.le_of_ble_eq_true rfl) ?_
 have ht1:=objs_tk0 ha
 have ht2:=objs_tk0 hb
 have hcm:=compare_any l[b] l[a]
 generalize l[b]=y at ht2 hcm
 generalize l[a]=x at ht1 hcm
 unfold cmpFn
 rcases Int.lt_or_le (cmpO y x) 0 with hlt|hlt
 ·have g3:decide (cmpO y x < 0)=true:=decide_eq_true hlt
  refine Wq<|qW 2 4 rfl<|qA rfl<|qA rfl<|Nl<|Wq<|Wq<|Wd 8 19 (by decide) rfl mixed rfl<|qM rfl<|qM rfl<|qM rfl<|Od rfl rfl (Ia rfl rfl rfl rfl ty30 ty40 (by omega))<|qG rfl ty40 rfl ht2<|qM rfl<|qM rfl<|Od rfl rfl (Ia rfl rfl rfl rfl ty30 ty40 (by omega))<|qG rfl ty40 rfl ht1<|Od rfl rfl (LO.callF (fr:=[]) rfl rfl hcm fok88 (.cons rfl (.pure rfl) (.cons rfl (.pure rfl) .nil)) rfl)<|qK rfl<|Nl ⟨by kernel_rfl,(Wt rfl ‹_›<|Wq<|qW 23 29 rfl<|qM rfl<|Od rfl rfl (Nc rfl rfl)<|qL rfl ty3 rfl<|qZ rfl (iW _ (by omega))<|Od rfl rfl (Nc rfl rfl)<|qS rfl ty3 (Sl rfl) rfl<|Nl<|Wq<|qW 33 37 rfl<|qM rfl<|qM rfl<|qA rfl<|qA rfl<|Nl<|Wz ⟨.inl rfl,_,(up (up mt 1 (some [.base (.int .i64 (s + 1))])) 0 (some (objsC l))),(Rc (Rt0 rfl) (Rc (Rt0 rfl) Rv)),(aU rfl (aU rfl aM)),?_⟩)⟩
  exact ⟨b,a,s + 1,⟨.inr ⟨rfl,rfl⟩,by omega,by omega⟩,rfl,rfl⟩
 ·have g3:decide (cmpO y x < 0)=false:=decide_eq_false (by omega)
  refine Wq<|qW 2 4 rfl<|qA rfl<|qA rfl<|Nl<|Wq<|Wq<|Wd 8 19 (by decide) rfl mixed rfl<|qM rfl<|qM rfl<|qM rfl<|Od rfl rfl (Ia rfl rfl rfl rfl ty30 ty40 (by omega))<|qG rfl ty40 rfl ht2<|qM rfl<|qM rfl<|Od rfl rfl (Ia rfl rfl rfl rfl ty30 ty40 (by omega))<|qG rfl ty40 rfl ht1<|Od rfl rfl (LO.callF (fr:=[]) rfl rfl hcm fok88 (.cons rfl (.pure rfl) (.cons rfl (.pure rfl) .nil)) rfl)<|qK rfl<|Nl ⟨by kernel_rfl,(Wo rfl ‹_›<|Wu<|Wq<|qW 41 45 rfl<|qM rfl<|qM rfl<|qA rfl<|qA rfl<|Nl<|Wz ⟨.inl rfl,_,(up (up mt 1 (some [.base (.int .i64 s)])) 0 (some (objsC l))),(Rc (Rt0 rfl) (Rc (Rt0 rfl) Rv)),(aU rfl (aU rfl aM)),?_⟩)⟩
  exact ⟨a,b,s,⟨.inl ⟨rfl,rfl⟩,by omega,by omega⟩,rfl,rfl⟩
def eqP4 (a b:Ad) (m n:Int):Bool:=eqA a b && m == n
theorem eqP4_in (d:Nat) (a b:Ad) (m n:Int) (w:World):(Op.equalIn (d + 3) 38 (.agg #[.bool a.v6,.int .u64 a.hi,.int .u64 a.lo,.int .i64 m]) (.agg #[.bool b.v6,.int .u64 b.hi,.int .u64 b.lo,.int .i64 n])).run Tryz.prog w=.ok (eqP4 a b m n) w:=by
 rw [run_equalIn_struct w (d + 2) 38 _ _ (by kernel_rfl) (by kernel_rfl)]
 have hu:=Tryz.underlying38
 have hua:=Tryz.underlying36
 have hi:=Tryz.underlying3
 have sa:∀ w:World,(sizeOf 36).run Tryz.prog w=.ok 3 w:=fun w=>(ty36).sizeOf w
 have ea:=fun w=>eqAd_in d a b w
 simp [Program.fieldsOf,hu,Op.eqFields,part,isAgg,run_underlying hua,run_underlying hi,sa,run_equalIn_int _ _ _ _ _ _ _ hi,ea]
 unfold eqP4
 by_cases h:m=n<;>cases eqA a b<;>simp [h]
section
variable (o:Oper) (E:Operand→Option AV) (L:HL) (N:Nat)
def notB (neg b:Bool):Bool:=if neg then !b else b
def eAggCmp (neg:Bool) (t:TypeId) (x y:Operand):Option Res:=match E x,E y with
 | some (.agg [.base (.bool v),.base (.int .u64 h),.base (.int .u64 l)]),some (.agg [.base (.bool v'),.base (.int .u64 h'),.base (.int .u64 l')])=>match Nat.beq t 36 with
  | true=>some ⟨[],[],.base (.bool (notB neg (eqA { v6:=v,hi:=h,lo:=l } { v6:=v',hi:=h',lo:=l' }))),L⟩
  | false=>none
 | some (.agg [.base (.bool v),.base (.int .u64 h),.base (.int .u64 l),.base (.int .i64 m)]),some (.agg [.base (.bool v'),.base (.int .u64 h'),.base (.int .u64 l'),.base (.int .i64 m')])=>match Nat.beq t 38 with
  | true=>some ⟨[],[],.base (.bool (notB neg (eqP4 { v6:=v,hi:=h,lo:=l } { v6:=v',hi:=h',lo:=l' } m m'))),L⟩
  | false=>none
 | some (.agg [.base (.int .u8 a0),.base (.int .u8 a1),.base (.int .u8 a2),.base (.int .u8 a3),.base (.int .u8 a4),.base (.int .u8 a5)]),some (.agg [.base (.int .u8 b0),.base (.int .u8 b1),.base (.int .u8 b2),.base (.int .u8 b3),.base (.int .u8 b4),.base (.int .u8 b5)])=>match Nat.beq t 96 with
  | true=>some ⟨[],[],.base (.bool (notB neg (decide ([a0,a1,a2,a3,a4,a5]=[b0,b1,b2,b3,b4,b5])))),L⟩
  | false=>none
 | _,_=>none
theorem eAggCmp_ok {neg:Bool} {t ty:TypeId} {x y:Operand} {R:Res} (ho:o.op=.binOp (if neg then .neq else .eql) t x y ty) (h:eAggCmp E L neg t x y=some R):LO Tryz.prog o E (lkH L) N R.rd R.wr R.v (lkH R.L):=by
 unfold eAggCmp at h
 split at h<;>first|(cases h;done)|skip
 ·rename_i v hh l v' h' l' hx hy
  split at h<;>first|(cases h;done)|skip
  rename_i ht
  have:=Nat.eq_of_beq_eq_true ht
  subst this
  injection h with h;subst h
  exact LO.eqBases neg [.bool v,.int .u64 hh,.int .u64 l] [.bool v',.int .u64 h',.int .u64 l'] ho hx hy rfl rfl (guardRun x y neg (by kernel_rfl)) (eqAd_in 9998 { v6:=v,hi:=hh,lo:=l } { v6:=v',hi:=h',lo:=l' })
 ·rename_i v hh l m v' h' l' m' hx hy
  split at h<;>first|(cases h;done)|skip
  rename_i ht
  have:=Nat.eq_of_beq_eq_true ht
  subst this
  injection h with h;subst h
  exact LO.eqBases neg [.bool v,.int .u64 hh,.int .u64 l,.int .i64 m] [.bool v',.int .u64 h',.int .u64 l',.int .i64 m'] ho hx hy rfl rfl (guardRun x y neg (by kernel_rfl)) (eqP4_in 9997 { v6:=v,hi:=hh,lo:=l } { v6:=v',hi:=h',lo:=l' } m m')
 ·rename_i a0 a1 a2 a3 a4 a5 b0 b1 b2 b3 b4 b5 hx hy
  split at h<;>first|(cases h;done)|skip
  rename_i ht
  have:=Nat.eq_of_beq_eq_true ht
  subst this
  injection h with h;subst h
  exact LO.eqBases neg ([a0,a1,a2,a3,a4,a5].map (Value.int .u8)) ([b0,b1,b2,b3,b4,b5].map (Value.int .u8)) ho hx hy rfl rfl (guardRun x y neg (by kernel_rfl)) (eqMac_in 9998 rfl rfl)
end
section
variable {P:Program} {o:Oper} {E:Operand→Option AV} {H:Hp} {f:Nat} {t:TypeId} {l:Lay} {size bytes:Nat} {zs:List AV} {x:Operand}
theorem LO.allocT (ho:o.op=.alloc t) (ht:TyOK P t l size bytes (.base (.pointer none)::zs)):LO P o E H f [] [f] (.own f 0) (up H f (some (.tyOf f t size::zs))):=by
 obtain ⟨z,hz,hzs,hzm,hzl,h1⟩:=ht.zeroV
 refine ⟨fun r hr=>up_ne (by simpa using hr),fun E' K hE hK X φ w ρ hR hst hf=>?_⟩
 rw [ovr_one]
 have hg:=(Good.zero (X:=X) (w:=w) (φ:=φ) hzm h1).2
 have hrun:(execOp ρ o).run P w=.ok (.value (.pointer (some ⟨w.heap.size,0,none⟩))) (w.alloc (.cells z.cells t)):=by
  simp [execOp,ho,Instr.alloc,hz,newVar,newRow,newObj,Sem.run,Pure.pure]
 have hnew:(w.alloc (.cells z.cells t)).heap[w.heap.size]?=some (.cells z.cells t (0,0)):=heap_alloc_new w _
 have hbst:bst (w.alloc (.cells z.cells t)) w.heap.size=(size + 1,t + 1):=by
  unfold bst
  rw [bsz_of hnew]
  unfold bel
  rw [hnew]
  rw [hzs]
 obtain ⟨k1,k2,k3,k4⟩:=hst.freshB (w':=w.alloc (.cells z.cells t)) (ob:=.cells z.cells t) (cs:=.tyOf f t size::zs) hf rfl rfl rfl rfl fun hk=>.cells z.cells t hnew fun j a hj=>by
  match j with
  | 0 =>
   simp at hj
   subst hj
   obtain ⟨_,u,hu,hr⟩:=hg 0 _ rfl
   rw [hr.base_eq] at hu
   exact ⟨rfl,.pointer none,hu,.tyOf f t size w.heap.size (if_pos rfl) hbst⟩
  | j + 1 =>
   obtain ⟨g1,u,g2,g3⟩:=hg (j + 1) a (by simpa using hj)
   exact ⟨g1,u,by rw [Nat.zero_add];exact g2,hk _ _ g3⟩
 unfold OpW
 rw [hrun]
 refine ⟨_,_,k1,k2,.own f 0 w.heap.size 0 k4 ?_⟩
 rw [bsz_of hnew]
 omega
theorem tyOf_at {X:Nat→Prop} {φ:Em} {w:World} {K:Hp} {r n b o':Nat} (hst:St X φ K w) (hK:K r=some (.tyOf r t n::zs)) (hp:φ r=some (b,o')) (h0:0 < bsz w b):o'=0∧w.shape? b=some (t,n):=by
 obtain ⟨c,el,hX,hcell,hcs⟩:=hst.cells hK hp h0
 obtain ⟨_,u,hu,hr⟩:=hcs 0 _ rfl
 cases hr with
 | tyOf _ _ _ b2 h1 h2 =>
  rw [hp] at h1
  injection h1 with h1
  injection h1 with e1 e2
  subst e1 e2
  have e3:bsz w b=n + 1:=congrArg Prod.fst h2
  have e4:bel w b=t + 1:=congrArg Prod.snd h2
  rw [bsz_of hcell] at e3
  unfold bel at e4
  rw [hcell] at e4
  simp only [Nat.add_right_cancel_iff] at e3 e4
  refine ⟨rfl,?_⟩
  simp [World.shape?,hcell,e3,e4]
theorem LO.toUnsafe {r n s d te:Nat} {j:TypeInfo} (ho:o.op=.convert s d x) (hx:E x=some (.own r 0)) (hH:H r=some (.tyOf r t n::zs)) (hn:0 < n) (hs:P.underlying s=some (.pointer te)) (hd:P.underlying d=some .unsafePointer) (ht:P.info? te=some j) (hj:j.size≠0):LO P o E H f [r] [] (.own r 0) H :=
 .read r fun X φ w ρ K hR hK hst=>by
  obtain ⟨b,o',hp,e1,hb0⟩:=(hR x (by simp [ho,Op.operands]) _ hx).own_inv
  obtain ⟨rfl,hsh⟩:=tyOf_at hst (hK.trans hH) hp hb0
  have hrun:=Lib.run_to_unsafe (P:=P) w ⟨b,0 + 0,none⟩ hs hd ht hj hsh (by simpa using hn)
  exact ⟨_,by simp only [execOp,ho,e1,Sem.run_bind,hrun,Result.andThen_ok,Sem.run_pure],.own r 0 b 0 hp hb0⟩
theorem LO.fromUnsafe {r n s d u:Nat} {j:TypeInfo} (ho:o.op=.convert s d x) (hx:E x=some (.own r 0)) (hH:H r=some (.tyOf r t n::zs)) (hs:P.underlying s=some .unsafePointer) (hd:P.underlying d=some (.pointer u)) (hu:P.info? u=some j) (hl:liesAt P P.depth t (n / P.cellsOf t) 0 u 1=true):LO P o E H f [r] [] (.own r 0) H :=
 .read r fun X φ w ρ K hR hK hst=>by
  obtain ⟨b,o',hp,e1,hb0⟩:=(hR x (by simp [ho,Op.operands]) _ hx).own_inv
  obtain ⟨rfl,hsh⟩:=tyOf_at hst (hK.trans hH) hp hb0
  have hrun:=Lib.run_from_unsafe (P:=P) w ⟨b,0 + 0,none⟩ hs hd hu hsh hl
  exact ⟨_,by simp only [execOp,ho,e1,Sem.run_bind,hrun,Result.andThen_ok,Sem.run_pure],.own r 0 b 0 hp hb0⟩
end
def cpE (cs:List AV) (k:Nat) (ns:List AV):Option (List AV):=match spE cs k ns with
 | some r=>some r
 | none=>match Nat.beq k cs.length with
  | true=>some (cs++ns)
  | false=>none
theorem cpE_ok {cs ns cs':List AV} {k:Nat} (h:cpE cs k ns=some cs'):Cp cs k ns cs':=by
 unfold cpE at h
 split at h
 ·rename_i r hr
  injection h with h;subst h
  exact .of (spE_ok hr)
 ·split at h<;>first|(cases h;done)|skip
  rename_i hk
  injection h with h;subst h
  exact .app (Nat.eq_of_beq_eq_true hk)
section
variable {P:Program} (Y:Tys P) (o:Oper) (E:Operand→Option AV) (L:HL) (N:Nat)
def eCopy (t tx:TypeId) (x y:Operand):Option Res:=match E x,Y.tab t with
 | some (.osl r off len sz),some (.sl e,_,_,_)=>match Y.tab e with
  | some (_,sz',_,_)=>match Nat.beq sz sz' with
   | true=>match E y with
    | some (.osl r' off' m sz2)=>match Y.tab tx,lkH L r',lkH L r with
     | some (.sl _,_,_,_),some cs',some cs=>match Nat.beq sz sz2 && Nat.blt 0 sz && Nat.blt 0 m && Nat.ble m len with
      | true=>match tkE cs' off' (m * sz2) with
       | some ns=>match cpE cs off ns with
        | some cs2=>some ⟨[r'],[r],.base (.int .i64 (m:Int)),putH L r cs2⟩
        | none=>none
       | none=>none
      | false=>none
     | _,_,_=>none
    | some a=>match a.isl? with
     | some (_ns,0)=>some ⟨[],[],.base (.int .i64 0),L⟩
     | some (ns,m)=>match Y.tab tx,lkH L r with
      | some (.sl _,_,_,_),some cs=>match Nat.beq ns.length (m * sz) && Nat.blt 0 sz && Nat.blt 0 m && Nat.ble m len with
       | true=>match cpE cs off ns with
        | some cs2=>some ⟨[],[r],.base (.int .i64 (m:Int)),putH L r cs2⟩
        | none=>none
       | false=>none
      | _,_=>none
     | none=>none
    | none=>none
   | false=>none
  | none=>none
 | _,_=>none
theorem eCopy_ok {t tx:TypeId} {x y:Operand} {R:Res} (ho:o.op=.call { callee:=.builtin .copy,args:=#[x,y],argTypes:=#[t,tx] }) (h:eCopy Y E L t tx x y=some R):LO P o E (lkH L) N R.rd R.wr R.v (lkH R.L):=by
 unfold eCopy at h
 split at h<;>first|(cases h;done)|skip
 rename_i r off len sz e s b z hx ht
 split at h<;>first|(cases h;done)|skip
 rename_i l' sz' b' z' he
 split at h<;>first|(cases h;done)|skip
 rename_i hsz
 have:=Nat.eq_of_beq_eq_true hsz
 subst this
 split at h<;>first|(cases h;done)|skip
 ·rename_i r' off' m sz2 hy
  split at h<;>first|(cases h;done)|skip
  rename_i e2 s2 b2 z2 cs' cs htx hl' hl
  split at h<;>first|(cases h;done)|skip
  rename_i hg
  simp only [Bool.and_eq_true,Nat.blt_eq,Nat.ble_eq] at hg
  have:=Nat.eq_of_beq_eq_true hg.1.1.1
  subst this
  split at h<;>first|(cases h;done)|skip
  rename_i ns hns
  split at h<;>first|(cases h;done)|skip
  rename_i cs2 hs
  injection h with h;subst h
  simp only [lk_put]
  exact .copy ho hx (.own hy hl' (tkE_ok hns)) hl (cpE_ok hs) (Y.ok _ _ _ _ _ ht) (Y.ok _ _ _ _ _ htx) (Y.ok _ _ _ _ _ he) hg.1.1.2 hg.1.2 hg.2
 ·rename_i a _ hy
  split at h<;>first|(cases h;done)|skip
  ·rename_i ns ha
   injection h with h;subst h
   exact .copy_nil ho hx hy ha (Y.ok _ _ _ _ _ ht) (Y.ok _ _ _ _ _ he)
  ·rename_i ns m _ ha
   split at h<;>first|(cases h;done)|skip
   rename_i e2 s2 b2 z2 cs htx hl
   split at h<;>first|(cases h;done)|skip
   rename_i hg
   simp only [Bool.and_eq_true,Nat.blt_eq,Nat.ble_eq] at hg
   split at h<;>first|(cases h;done)|skip
   rename_i cs2 hs
   injection h with h;subst h
   simp only [lk_put]
   exact .copy ho hx (.isl hy ha (Nat.eq_of_beq_eq_true hg.1.1.1)) hl (cpE_ok hs) (Y.ok _ _ _ _ _ ht) (Y.ok _ _ _ _ _ htx) (Y.ok _ _ _ _ _ he) hg.1.1.2 hg.1.2 hg.2
def bytesE:List AV→Option (List Int)
 | []=>some []
 | .base (.int .u8 z)::l=>match bytesE l with
  | some xs=>some (z::xs)
  | none=>none
 | _::_=>none
theorem bytesE_ok:∀ {l:List AV} {xs:List Int},bytesE l=some xs→l=xs.map fun z=>.base (.int .u8 z):=by
 intro l
 induction l with
 | nil=>intro xs h;injection h with h;subst h;rfl
 | cons a l ih =>
  intro xs h
  unfold bytesE at h
  split at h<;>first|(cases h;done)|skip
  ·rename_i hn;injection hn
  ·rename_i z l2 he
   split at h<;>first|(cases h;done)|skip
   rename_i xs2 hxs
   injection h with h;subst h
   injection he with e1 e2
   subst e1 e2
   rw [ih hxs];rfl
def eConv2 (s t:TypeId) (x:Operand):Option Res:=match Y.tab s,Y.tab t with
 | some (.sl e,_,_,_),some (.str,_,_,_)=>match Y.tab e with
  | some (.int .u8,_,_,_)=>match E x with
   | some (.osl r off n sz)=>match lkH L r with
    | some cs=>match Nat.beq sz 1 with
     | true=>match tkE cs off (n * 1) with
      | some vs=>match bytesE vs with
       | some xs=>some ⟨[r],[],.base (.string (strOfNums xs)),L⟩
       | none=>none
      | none=>none
     | false=>none
    | none=>none
   | some (.isl cs n)=>match bytesE cs with
    | some xs=>match Nat.beq xs.length n with
     | true=>some ⟨[],[],.base (.string (strOfNums xs)),L⟩
     | false=>none
    | none=>none
   | _=>none
  | _=>none
 | some (.str,_,_,_),some (.sl e,_,_,_)=>match Y.tab e with
  | some (.int .u8,_,_,_)=>match E x with
   | some (.base (.string ⟨⟨l⟩⟩))=>some ⟨[],[],.isl (l.map fun c=>.base (.int .u8 (c.toNat:Int))) l.length,L⟩
   | _=>none
  | _=>none
 | _,_=>none
theorem eConv2_ok {s t:TypeId} {x:Operand} {R:Res} (ho:o.op=.convert s t x) (h:eConv2 Y E L s t x=some R):LO P o E (lkH L) N R.rd R.wr R.v (lkH R.L):=by
 unfold eConv2 at h
 split at h<;>first|(cases h;done)|skip
 ·rename_i e s1 b1 z1 s2 b2 z2 hs ht
  split at h<;>first|(cases h;done)|skip
  rename_i s3 b3 z3 he
  split at h<;>first|(cases h;done)|skip
  ·rename_i r off n sz hx
   split at h<;>first|(cases h;done)|skip
   rename_i cs hl
   split at h<;>first|(cases h;done)|skip
   rename_i hsz
   have:=Nat.eq_of_beq_eq_true hsz
   subst this
   split at h<;>first|(cases h;done)|skip
   rename_i vs hv
   split at h<;>first|(cases h;done)|skip
   rename_i xs hxs
   injection h with h;subst h
   have e1:=bytesE_ok hxs
   have hv':=tkE_ok hv
   have hn:xs.length=n:=by have:=hv'.1;rw [e1,List.length_map] at this;omega
   subst hn
   rw [e1] at hv'
   exact .strO ho hx hl hv' (lay_sl (Y.ok _ _ _ _ _ hs)) (lay_int (Y.ok _ _ _ _ _ he)) (lay_str (Y.ok _ _ _ _ _ ht))
  ·rename_i cs n hx
   split at h<;>first|(cases h;done)|skip
   rename_i xs hxs
   split at h<;>first|(cases h;done)|skip
   rename_i hn
   have:=Nat.eq_of_beq_eq_true hn
   subst this
   injection h with h;subst h
   rw [bytesE_ok hxs] at hx
   exact .str ho hx (lay_sl (Y.ok _ _ _ _ _ hs)) (lay_int (Y.ok _ _ _ _ _ he)) (lay_str (Y.ok _ _ _ _ _ ht))
 ·rename_i s1 b1 z1 e s2 b2 z2 hs ht
  split at h<;>first|(cases h;done)|skip
  rename_i s3 b3 z3 he
  split at h<;>first|(cases h;done)|skip
  rename_i l hx
  injection h with h;subst h
  exact .toBytes (b:=⟨⟨l⟩⟩) ho hx (lay_str (Y.ok _ _ _ _ _ hs)) (lay_sl (Y.ok _ _ _ _ _ ht)) (lay_int (Y.ok _ _ _ _ _ he))
def eSliceAr (t:TypeId) (x:Operand) (lo hi:Option Operand):Option Res:=match E x,Y.tab t with
 | some (.own r off),some (.arr len e,_,_,_)=>match Y.tab e,lkH L r with
  | some (_,sz,_,_),some cs=>match bndE E lo 0,bndE E hi len with
   | some m,some n=>match Nat.ble m n && Nat.ble n len && Nat.ble (off + len * sz) cs.length && Nat.blt 0 cs.length with
    | true=>some ⟨[r],[],.osl r (off + m * sz) (n - m) sz,L⟩
    | false=>none
   | _,_=>none
  | _,_=>none
 | _,_=>none
theorem eSliceAr_ok {t:TypeId} {x:Operand} {lo hi:Option Operand} {R:Res} (ho:o.op=.slice t x lo hi none) (h:eSliceAr Y E L t x lo hi=some R):LO P o E (lkH L) N R.rd R.wr R.v (lkH R.L):=by
 unfold eSliceAr at h
 split at h<;>first|(cases h;done)|skip
 rename_i r off len e s b z hx ht
 split at h<;>first|(cases h;done)|skip
 rename_i l' sz b' z' cs he hl
 split at h<;>first|(cases h;done)|skip
 rename_i m n hm hn
 split at h<;>first|(cases h;done)|skip
 rename_i hg
 simp only [Bool.and_eq_true,Nat.ble_eq,Nat.blt_eq] at hg
 injection h with h;subst h
 exact .sliceAr ho hx hl hg.1.2 hg.2 (bndE_ok E hm) (bndE_ok E hn) hg.1.1.1 hg.1.1.2 (Y.ok _ _ _ _ _ ht) (Y.ok _ _ _ _ _ he)
def eToArr (t:TypeId) (x:Operand):Option Res:=match Y.tab t with
 | some (.arr n _,_,_,_)=>match Nat.blt 0 n with
  | true=>match E x with
   | some (.osl r off len _)=>match Nat.ble n len with
    | true=>some ⟨[],[],.own r off,L⟩
    | false=>none
   | some a=>match a.isl? with
    | some (cs,len)=>match Nat.ble n len with
     | true=>some ⟨[],[],.imm cs 0,L⟩
     | false=>none
    | none=>none
   | none=>none
  | false=>none
 | _=>none
theorem eToArr_ok {t:TypeId} {x:Operand} {R:Res} (ho:o.op=.sliceToArrayPointer t x) (h:eToArr Y E L t x=some R):LO P o E (lkH L) N R.rd R.wr R.v (lkH R.L):=by
 unfold eToArr at h
 split at h<;>first|(cases h;done)|skip
 rename_i n e s b z ht
 split at h<;>first|(cases h;done)|skip
 rename_i h0
 have h0:0 < n:=by simpa using h0
 split at h<;>first|(cases h;done)|skip
 ·rename_i r off len sz hx
  split at h<;>first|(cases h;done)|skip
  rename_i hl
  injection h with h;subst h
  exact .toArrO ho hx (Y.ok _ _ _ _ _ ht) h0 (Nat.le_of_ble_eq_true hl)
 ·rename_i a _ hx
  split at h<;>first|(cases h;done)|skip
  rename_i cs len ha
  split at h<;>first|(cases h;done)|skip
  rename_i hl
  injection h with h;subst h
  exact .toArr ho hx ha (Y.ok _ _ _ _ _ ht) h0 (Nat.le_of_ble_eq_true hl)
def eCap (t:TypeId) (x:Operand):Option Res:=match E x,Y.tab t with
 | some .nils,some (.sl _,_,_,_)=>some ⟨[],[],.base (.int .i64 0),L⟩
 | _,_=>none
theorem eCap_ok {t:TypeId} {x:Operand} {R:Res} (ho:o.op=.call { callee:=.builtin .cap,args:=#[x],argTypes:=#[t] }) (h:eCap Y E L t x=some R):LO P o E (lkH L) N R.rd R.wr R.v (lkH R.L):=by
 unfold eCap at h
 split at h<;>first|(cases h;done)|skip
 rename_i hx ht
 injection h with h;subst h
 exact .cap_nil ho hx (Y.ok _ _ _ _ _ ht)
end
theorem tyG448:TyOK Tryz.prog 448 (.arr 256 4) 256 256 (List.replicate 256 (.base (.bool false))):=by unfold TyOK;kernel_rfl
theorem tyG464:TyOK Tryz.prog 464 (.arr 65 5) 65 65 (List.replicate 65 (.base (.int .u8 0))):=by unfold TyOK;kernel_rfl
end Go.Proofs.YtbfnfgpjgdbmeaaGreatDoor
