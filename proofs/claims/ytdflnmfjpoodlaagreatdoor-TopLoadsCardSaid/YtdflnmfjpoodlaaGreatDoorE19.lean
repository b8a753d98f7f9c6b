/-
  Further operations, carried out: copies, conversions, parts of own arrays. Two great arrays among the types. Tables: the types and the functions of the program. A Builder, carried out. Typed slices and pointers, taken as plain ones.
-/
import Derived.Test.YtdflnmfjpoodlaaGreatDoorE17
import Derived.Test.YtdflnmfjpoodlaaGreatDoorMab
import Derived.Test.YtdflnmfjpoodlaaGreatDoorLw
namespace Go.Proofs.YtdflnmfjpoodlaaGreatDoor
open Go.RowKit
def cpE (cs:List AV) (k:Nat) (ns:List AV):Option (List AV):=match spE cs k ns with
 | some r=>some r
 | none=>match Nat.beq k cs.length with
  | true=>some (cs++ns)
  | false=>none
theorem cpE_ok {cs ns cs':List AV} {k:Nat} (h:cpE cs k ns=some cs'):Cp cs k ns cs':=by
 unfold cpE at h
 split at h
 ·rename_i r hr
  injection h with h;subst h
  exact .of (spE_ok hr)
 ·split at h<;>first|(cases h;done)|skip
  rename_i hk
  injection h with h;subst h
  exact .app (Nat.eq_of_beq_eq_true hk)
section
variable {P:Program} (Y:Tys P) (o:Oper) (E:Operand→Option AV) (L:HL) (N:Nat)
def eCopy (t tx:TypeId) (x y:Operand):Option Res:=match E x,Y.tab t with
 | some (.osl r off len sz),some (.sl e,_,_,_)=>match Y.tab e with
  | some (_,sz',_,_)=>match Nat.beq sz sz' with
   | true=>match E y with
    | some (.osl r' off' m sz2)=>match Y.tab tx,lkH L r',lkH L r with
     | some (.sl _,_,_,_),some cs',some cs=>match Nat.beq sz sz2 && Nat.blt 0 sz && Nat.blt 0 m && Nat.ble m len with
      | true=>match tkE cs' off' (m * sz2) with
       | some ns=>match cpE cs off ns with
        | some cs2=>some ⟨[r'],[r],.base (.int .i64 (m:Int)),putH L r cs2⟩
        | none=>none
       | none=>none
      | false=>none
     | _,_,_=>none
    | some a=>match a.isl? with
     | some (_ns,0)=>some ⟨[],[],.base (.int .i64 0),L⟩
     | some (ns,m)=>match Y.tab tx,lkH L r with
      | some (.sl _,_,_,_),some cs=>match Nat.beq ns.length (m * sz) && Nat.blt 0 sz && Nat.blt 0 m && Nat.ble m len with
       | true=>match cpE cs off ns with
        | some cs2=>some ⟨[],[r],.base (.int .i64 (m:Int)),putH L r cs2⟩
        | none=>none
       | false=>none
      | _,_=>none
     | none=>none
    | none=>none
   | false=>none
  | none=>none
 | _,_=>none
theorem eCopy_ok {t tx:TypeId} {x y:Operand} {R:Res} (ho:o.op=.call { callee:=.builtin .copy,args:=#[x,y],argTypes:=#[t,tx] }) (h:eCopy Y E L t tx x y=some R):LO P o E (lkH L) N R.rd R.wr R.v (lkH R.L):=by
 unfold eCopy at h
 split at h<;>first|(cases h;done)|skip
 rename_i r off len sz e s b z hx ht
 split at h<;>first|(cases h;done)|skip
 rename_i l' sz' b' z' he
 split at h<;>first|(cases h;done)|skip
 rename_i hsz
 have:=Nat.eq_of_beq_eq_true hsz
 subst this
 split at h<;>first|(cases h;done)|skip
 ·rename_i r' off' m sz2 hy
  split at h<;>first|(cases h;done)|skip
  rename_i e2 s2 b2 z2 cs' cs htx hl' hl
  split at h<;>first|(cases h;done)|skip
  rename_i hg
  simp only [Bool.and_eq_true,Nat.blt_eq,Nat.ble_eq] at hg
  have:=Nat.eq_of_beq_eq_true hg.1.1.1
  subst this
  split at h<;>first|(cases h;done)|skip
  rename_i ns hns
  split at h<;>first|(cases h;done)|skip
  rename_i cs2 hs
  injection h with h;subst h
  simp only [lk_put]
  exact .copy ho hx (.own hy hl' (tkE_ok hns)) hl (cpE_ok hs) (Y.ok _ _ _ _ _ ht) (Y.ok _ _ _ _ _ htx) (Y.ok _ _ _ _ _ he) hg.1.1.2 hg.1.2 hg.2
 ·rename_i a _ hy
  split at h<;>first|(cases h;done)|skip
  ·rename_i ns ha
   injection h with h;subst h
   exact .copy_nil ho hx hy ha (Y.ok _ _ _ _ _ ht) (Y.ok _ _ _ _ _ he)
  ·rename_i ns m _ ha
   split at h<;>first|(cases h;done)|skip
   rename_i e2 s2 b2 z2 cs htx hl
   split at h<;>first|(cases h;done)|skip
   rename_i hg
   simp only [Bool.and_eq_true,Nat.blt_eq,Nat.ble_eq] at hg
   split at h<;>first|(cases h;done)|skip
   rename_i cs2 hs
   injection h with h;subst h
   simp only [lk_put]
   exact .copy ho hx (.isl hy ha (Nat.eq_of_beq_eq_true hg.1.1.1)) hl (cpE_ok hs) (Y.ok _ _ _ _ _ ht) (Y.ok _ _ _ _ _ htx) (Y.ok _ _ _ _ _ he) hg.1.1.2 hg.1.2 hg.2
def bytesE:List AV→Option (List Int)
 | []=>some []
 | .base (.int .u8 z)::l=>match bytesE l with
  | some xs=>some (z::xs)
  | none=>none
 | _::_=>none
theorem bytesE_ok:∀ {l:List AV} {xs:List Int},bytesE l=some xs→l=xs.map fun z=>.base (.int .u8 z):=by
 intro l
 induction l with
 | nil=>intro xs h;injection h with h;subst h;rfl
 | cons a l ih =>
  intro xs h
  unfold bytesE at h
  split at h<;>first|(cases h;done)|skip
  ·rename_i hn;injection hn
  ·rename_i z l2 he
   split at h<;>first|(cases h;done)|skip
   rename_i xs2 hxs
   injection h with h;subst h
   injection he with e1 e2
   subst e1 e2
   rw [ih hxs];rfl
def eConv2 (s t:TypeId) (x:Operand):Option Res:=match Y.tab s,Y.tab t with
 | some (.sl e,_,_,_),some (.str,_,_,_)=>match Y.tab e with
  | some (.int .u8,_,_,_)=>match E x with
   | some (.osl r off n sz)=>match lkH L r with
    | some cs=>match Nat.beq sz 1 with
     | true=>match tkE cs off (n * 1) with
      | some vs=>match bytesE vs with
       | some xs=>some ⟨[r],[],.base (.string (strOfNums xs)),L⟩
       | none=>none
      | none=>none
     | false=>none
    | none=>none
   | some (.isl cs n)=>match bytesE cs with
    | some xs=>match Nat.beq xs.length n with
     | true=>some ⟨[],[],.base (.string (strOfNums xs)),L⟩
     | false=>none
    | none=>none
   | _=>none
  | _=>none
 | some (.str,_,_,_),some (.sl e,_,_,_)=>match Y.tab e with
  | some (.int .u8,_,_,_)=>match E x with
   | some (.base (.string ⟨⟨l⟩⟩))=>some ⟨[],[],.isl (l.map fun c=>.base (.int .u8 (c.toNat:Int))) l.length,L⟩
   | _=>none
  | _=>none
 | _,_=>none
theorem eConv2_ok {s t:TypeId} {x:Operand} {R:Res} (ho:o.op=.convert s t x) (h:eConv2 Y E L s t x=some R):LO P o E (lkH L) N R.rd R.wr R.v (lkH R.L):=by
 unfold eConv2 at h
 split at h<;>first|(cases h;done)|skip
 ·rename_i e s1 b1 z1 s2 b2 z2 hs ht
  split at h<;>first|(cases h;done)|skip
  rename_i s3 b3 z3 he
  split at h<;>first|(cases h;done)|skip
  ·rename_i r off n sz hx
   split at h<;>first|(cases h;done)|skip
   rename_i cs hl
   split at h<;>first|(cases h;done)|skip
   rename_i hsz
   have:=Nat.eq_of_beq_eq_true hsz
   subst this
   split at h<;>first|(cases h;done)|skip
   rename_i vs hv
   split at h<;>first|(cases h;done)|skip
   rename_i xs hxs
   injection h with h;subst h
   have e1:=bytesE_ok hxs
   have hv':=tkE_ok hv
   have hn:xs.length=n:=by have:=hv'.1;rw [e1,List.length_map] at this;omega
   subst hn
   rw [e1] at hv'
   exact .strO ho hx hl hv' (lay_sl (Y.ok _ _ _ _ _ hs)) (lay_int (Y.ok _ _ _ _ _ he)) (lay_str (Y.ok _ _ _ _ _ ht))
  ·rename_i cs n hx
   split at h<;>first|(cases h;done)|skip
   rename_i xs hxs
   split at h<;>first|(cases h;done)|skip
   rename_i hn
   have:=Nat.eq_of_beq_eq_true hn
   subst this
   injection h with h;subst h
   rw [bytesE_ok hxs] at hx
   exact .str ho hx (lay_sl (Y.ok _ _ _ _ _ hs)) (lay_int (Y.ok _ _ _ _ _ he)) (lay_str (Y.ok _ _ _ _ _ ht))
 ·rename_i s1 b1 z1 e s2 b2 z2 hs ht
  split at h<;>first|(cases h;done)|skip
  rename_i s3 b3 z3 he
  split at h<;>first|(cases h;done)|skip
  rename_i l hx
  injection h with h;subst h
  exact .toBytes (b:=⟨⟨l⟩⟩) ho hx (lay_str (Y.ok _ _ _ _ _ hs)) (lay_sl (Y.ok _ _ _ _ _ ht)) (lay_int (Y.ok _ _ _ _ _ he))
def eSliceAr (t:TypeId) (x:Operand) (lo hi:Option Operand):Option Res:=match E x,Y.tab t with
 | some (.own r off),some (.arr len e,_,_,_)=>match Y.tab e,lkH L r with
  | some (_,sz,_,_),some cs=>match bndE E lo 0,bndE E hi len with
   | some m,some n=>match Nat.ble m n && Nat.ble n len && Nat.ble (off + len * sz) cs.length && Nat.blt 0 cs.length with
    | true=>some ⟨[r],[],.osl r (off + m * sz) (n - m) sz,L⟩
    | false=>none
   | _,_=>none
  | _,_=>none
 | _,_=>none
theorem eSliceAr_ok {t:TypeId} {x:Operand} {lo hi:Option Operand} {R:Res} (ho:o.op=.slice t x lo hi none) (h:eSliceAr Y E L t x lo hi=some R):LO P o E (lkH L) N R.rd R.wr R.v (lkH R.L):=by
 unfold eSliceAr at h
 split at h<;>first|(cases h;done)|skip
 rename_i r off len e s b z hx ht
 split at h<;>first|(cases h;done)|skip
 rename_i l' sz b' z' cs he hl
 split at h<;>first|(cases h;done)|skip
 rename_i m n hm hn
 split at h<;>first|(cases h;done)|skip
 rename_i hg
 simp only [Bool.and_eq_true,Nat.ble_eq,Nat.blt_eq] at hg
 injection h with h;subst h
 exact .sliceAr ho hx hl hg.1.2 hg.2 (bndE_ok E hm) (bndE_ok E hn) hg.1.1.1 hg.1.1.2 (Y.ok _ _ _ _ _ ht) (Y.ok _ _ _ _ _ he)
def eToArr (t:TypeId) (x:Operand):Option Res:=match Y.tab t with
 | some (.arr n _,_,_,_)=>match Nat.blt 0 n with
  | true=>match E x with
   | some (.osl r off len _)=>match Nat.ble n len with
    | true=>some ⟨[],[],.own r off,L⟩
    | false=>none
   | some a=>match a.isl? with
    | some (cs,len)=>match Nat.ble n len with
     | true=>some ⟨[],[],.imm cs 0,L⟩
     | false=>none
    | none=>none
   | none=>none
  | false=>none
 | _=>none
theorem eToArr_ok {t:TypeId} {x:Operand} {R:Res} (ho:o.op=.sliceToArrayPointer t x) (h:eToArr Y E L t x=some R):LO P o E (lkH L) N R.rd R.wr R.v (lkH R.L):=by
 unfold eToArr at h
 split at h<;>first|(cases h;done)|skip
 rename_i n e s b z ht
 split at h<;>first|(cases h;done)|skip
 rename_i h0
 have h0:0 < n:=by simpa using h0
 split at h<;>first|(cases h;done)|skip
 ·rename_i r off len sz hx
  split at h<;>first|(cases h;done)|skip
  rename_i hl
  injection h with h;subst h
  exact .toArrO ho hx (Y.ok _ _ _ _ _ ht) h0 (Nat.le_of_ble_eq_true hl)
 ·rename_i a _ hx
  split at h<;>first|(cases h;done)|skip
  rename_i cs len ha
  split at h<;>first|(cases h;done)|skip
  rename_i hl
  injection h with h;subst h
  exact .toArr ho hx ha (Y.ok _ _ _ _ _ ht) h0 (Nat.le_of_ble_eq_true hl)
def eCap (t:TypeId) (x:Operand):Option Res:=match E x,Y.tab t with
 | some .nils,some (.sl _,_,_,_)=>some ⟨[],[],.base (.int .i64 0),L⟩
 | _,_=>none
theorem eCap_ok {t:TypeId} {x:Operand} {R:Res} (ho:o.op=.call { callee:=.builtin .cap,args:=#[x],argTypes:=#[t] }) (h:eCap Y E L t x=some R):LO P o E (lkH L) N R.rd R.wr R.v (lkH R.L):=by
 unfold eCap at h
 split at h<;>first|(cases h;done)|skip
 rename_i hx ht
 injection h with h;subst h
 exact .cap_nil ho hx (Y.ok _ _ _ _ _ ht)
end
end Go.Proofs.YtdflnmfjpoodlaaGreatDoor
namespace Go.Proofs.YtdflnmfjpoodlaaGreatDoor
open Go.RowKit
theorem tyG305:TyOK Tryz.prog 305 (.arr 256 4) 256 256 (List.replicate 256 (.base (.bool false))):=by unfold TyOK;kernel_rfl
theorem tyG323:TyOK Tryz.prog 323 (.arr 65 5) 65 65 (List.replicate 65 (.base (.int .u8 0))):=by unfold TyOK;kernel_rfl
end Go.Proofs.YtdflnmfjpoodlaaGreatDoor
namespace Go.Proofs.YtdflnmfjpoodlaaGreatDoor
open Go.RowKit
inductive BT (α:Type) where
 | lf
 | nd (l:BT α) (k:Nat) (v:α) (r:BT α)
def BT.get {α:Type}:BT α→Nat→Option α
 | .lf,_=>none
 | .nd l k v r,t=>match Nat.blt t k with
  | true=>l.get t
  | false=>match Nat.beq k t with
   | true=>some v
   | false=>r.get t
def BT.All {α:Type} (p:Nat→α→Prop):BT α→Prop
 | .lf=>True
 | .nd l k v r=>l.All p∧p k v∧r.All p
theorem BT.get_ok {α:Type} {p:Nat→α→Prop}:∀ {T:BT α} {t:Nat} {v:α},T.All p→T.get t=some v→p t v:=by
 intro T
 induction T with
 | lf=>intro t v _ h;cases h
 | nd l k u r ihl ihr =>
  intro t v ha h
  unfold BT.get at h
  split at h
  ·exact ihl ha.1 h
  ·split at h
   ·rename_i hb
    have:=Nat.eq_of_beq_eq_true hb
    subst this
    injection h with h;subst h
    exact ha.2.1
   ·exact ihr ha.2.2 h
abbrev TyP (k:Nat) (r:TyRow):Prop:=TyOK Tryz.prog k r.1 r.2.1 r.2.2.1 r.2.2.2
abbrev FnP (k : Nat) (f : Func) : Prop := Tryz.prog.funcs[k]? = some f ∧ (f.name == "runtime.NumGoroutine") = false
noncomputable def tyTab0:BT TyRow:=.nd (.nd (.nd (.nd (.nd (.nd .lf 2 ((.int .i64),1,8,[.base (.int .i64 0)]) .lf) 3 ((.int .i64),1,8,[.base (.int .i64 0)]) .lf) 4 ((.bool),1,1,[.base (.bool false)]) (.nd (.nd .lf 5 ((.int .u8),1,1,[.base (.int .u8 0)]) .lf) 6 ((.int .u8),1,1,[.base (.int .u8 0)]) .lf)) 7 ((.st [(0,1,2),(1,1,3),(2,1,4),(3,1,6)]),4,24,[.base (.int .i64 0),.base (.int .i64 0),.base (.bool false),.base (.int .u8 0)]) (.nd (.nd (.nd .lf 8 ((.st [(0,1,2),(1,1,3),(2,1,4),(3,1,6)]),4,24,[.base (.int .i64 0),.base (.int .i64 0),.base (.bool false),.base (.int .u8 0)]) .lf) 9 ((.str),1,16,[.base (.string ⟨#[]⟩)]) .lf) 10 ((.str),1,16,[.base (.string ⟨#[]⟩)]) (.nd .lf 11 ((.str),1,16,[.base (.string ⟨#[]⟩)]) .lf))) 12 ((.int .u64),1,8,[.base (.int .u64 0)]) (.nd (.nd (.nd (.nd .lf 13 ((.st [(0,1,9),(1,1,12)]),2,24,[.base (.string ⟨#[]⟩),.base (.int .u64 0)]) .lf) 14 ((.st [(0,1,9),(1,1,12)]),2,24,[.base (.string ⟨#[]⟩),.base (.int .u64 0)]) .lf) 15 ((.ptr 354),1,8,[.base (.pointer none)]) (.nd .lf 16 ((.ptr 357),1,8,[.base (.pointer none)]) .lf)) 17 ((.ptr 364),1,8,[.base (.pointer none)]) (.nd (.nd (.nd .lf 18 ((.st [(0,1,17)]),1,8,[.base (.pointer none)]) .lf) 19 ((.st [(0,1,17)]),1,8,[.base (.pointer none)]) .lf) 21 ((.int .i32),1,4,[.base (.int .i32 0)]) (.nd .lf 22 ((.sl 3),1,24,[.nils]) .lf)))) 23 ((.ptr 77),1,8,[.base (.pointer none)]) (.nd (.nd (.nd (.nd (.nd .lf 25 ((.int .u64),1,8,[.base (.int .u64 0)]) .lf) 26 ((.st [(0,1,4),(1,1,25),(2,1,25)]),3,24,[.base (.bool false),.base (.int .u64 0),.base (.int .u64 0)]) .lf) 27 ((.st [(0,1,4),(1,1,25),(2,1,25)]),3,24,[.base (.bool false),.base (.int .u64 0),.base (.int .u64 0)]) (.nd .lf 28 ((.st [(0,3,27),(3,1,3)]),4,32,[.base (.bool false),.base (.int .u64 0),.base (.int .u64 0),.base (.int .i64 0)]) .lf)) 29 ((.st [(0,3,27),(3,1,3)]),4,32,[.base (.bool false),.base (.int .u64 0),.base (.int .u64 0),.base (.int .i64 0)]) (.nd (.nd (.nd .lf 30 ((.sl 91),1,24,[.nils]) .lf) 31 ((.st [(0,4,29),(4,4,29),(8,1,30),(9,1,30)]),10,112,[.base (.bool false),.base (.int .u64 0),.base (.int .u64 0),.base (.int .i64 0),.base (.bool false),.base (.int .u64 0),.base (.int .u64 0),.base (.int .i64 0),.nils,.nils]) .lf) 32 ((.st [(0,4,29),(4,4,29),(8,1,30),(9,1,30)]),10,112,[.base (.bool false),.base (.int .u64 0),.base (.int .u64 0),.base (.int .i64 0),.base (.bool false),.base (.int .u64 0),.base (.int .u64 0),.base (.int .i64 0),.nils,.nils]) (.nd .lf 33 ((.sl 52),1,24,[.nils]) .lf))) 34 ((.sl 100),1,24,[.nils]) (.nd (.nd (.nd (.nd .lf 38 ((.sl 96),1,24,[.nils]) .lf) 39 ((.sl 4),1,24,[.nils]) .lf) 40 ((.st [(0,1,3),(1,1,38),(2,1,39),(3,1,39)]),4,80,[.base (.int .i64 0),.nils,.nils,.nils]) (.nd .lf 41 ((.st [(0,1,3),(1,1,38),(2,1,39),(3,1,39)]),4,80,[.base (.int .i64 0),.nils,.nils,.nils]) .lf)) 43 ((.map 3 4),1,8,[.base (.map none)]) (.nd (.nd (.nd .lf 49 ((.sl 55),1,24,[.nils]) .lf) 50 ((.sl 27),1,24,[.nils]) .lf) 51 ((.st [(0,1,3),(1,1,3),(2,1,3),(3,1,49),(4,1,50),(5,1,50),(6,1,3),(7,1,3)]),8,112,[.base (.int .i64 0),.base (.int .i64 0),.base (.int .i64 0),.nils,.nils,.nils,.base (.int .i64 0),.base (.int .i64 0)]) (.nd .lf 52 ((.st [(0,1,3),(1,1,3),(2,1,3),(3,1,49),(4,1,50),(5,1,50),(6,1,3),(7,1,3)]),8,112,[.base (.int .i64 0),.base (.int .i64 0),.base (.int .i64 0),.nils,.nils,.nils,.base (.int .i64 0),.base (.int .i64 0)]) .lf))))
theorem tyTab0_ok:tyTab0.All TyP:=⟨⟨⟨⟨⟨⟨trivial,ty2,trivial⟩,ty3,trivial⟩,ty4,⟨⟨trivial,ty5,trivial⟩,ty6,trivial⟩⟩,ty7,⟨⟨⟨trivial,ty8,trivial⟩,ty9,trivial⟩,ty10,⟨trivial,ty11,trivial⟩⟩⟩,ty12,⟨⟨⟨⟨trivial,ty13,trivial⟩,ty14,trivial⟩,ty15,⟨trivial,ty16,trivial⟩⟩,ty17,⟨⟨⟨trivial,ty18,trivial⟩,ty19,trivial⟩,ty21,⟨trivial,ty22,trivial⟩⟩⟩⟩,ty23,⟨⟨⟨⟨⟨trivial,ty25,trivial⟩,ty26,trivial⟩,ty27,⟨trivial,ty28,trivial⟩⟩,ty29,⟨⟨⟨trivial,ty30,trivial⟩,ty31,trivial⟩,ty32,⟨trivial,ty33,trivial⟩⟩⟩,ty34,⟨⟨⟨⟨trivial,ty38,trivial⟩,ty39,trivial⟩,ty40,⟨trivial,ty41,trivial⟩⟩,ty43,⟨⟨⟨trivial,ty49,trivial⟩,ty50,trivial⟩,ty51,⟨trivial,ty52,trivial⟩⟩⟩⟩⟩
noncomputable def tyTab1:BT TyRow:=.nd (.nd (.nd (.nd (.nd (.nd .lf 54 ((.arr 6 5),6,6,[.base (.int .u8 0),.base (.int .u8 0),.base (.int .u8 0),.base (.int .u8 0),.base (.int .u8 0),.base (.int .u8 0)]) .lf) 55 ((.arr 6 5),6,6,[.base (.int .u8 0),.base (.int .u8 0),.base (.int .u8 0),.base (.int .u8 0),.base (.int .u8 0),.base (.int .u8 0)]) .lf) 56 ((.sl 5),1,24,[.nils]) (.nd (.nd .lf 57 ((.st [(0,6,55),(6,6,55),(12,1,3),(13,1,3),(14,1,56)]),15,56,[.base (.int .u8 0),.base (.int .u8 0),.base (.int .u8 0),.base (.int .u8 0),.base (.int .u8 0),.base (.int .u8 0),.base (.int .u8 0),.base (.int .u8 0),.base (.int .u8 0),.base (.int .u8 0),.base (.int .u8 0),.base (.int .u8 0),.base (.int .i64 0),.base (.int .i64 0),.nils]) .lf) 58 ((.st [(0,6,55),(6,6,55),(12,1,3),(13,1,3),(14,1,56)]),15,56,[.base (.int .u8 0),.base (.int .u8 0),.base (.int .u8 0),.base (.int .u8 0),.base (.int .u8 0),.base (.int .u8 0),.base (.int .u8 0),.base (.int .u8 0),.base (.int .u8 0),.base (.int .u8 0),.base (.int .u8 0),.base (.int .u8 0),.base (.int .i64 0),.base (.int .i64 0),.nils]) .lf)) 60 ((.st [(0,1,3),(1,1,22),(2,15,58)]),17,88,[.base (.int .i64 0),.nils,.base (.int .u8 0),.base (.int .u8 0),.base (.int .u8 0),.base (.int .u8 0),.base (.int .u8 0),.base (.int .u8 0),.base (.int .u8 0),.base (.int .u8 0),.base (.int .u8 0),.base (.int .u8 0),.base (.int .u8 0),.base (.int .u8 0),.base (.int .i64 0),.base (.int .i64 0),.nils]) (.nd (.nd (.nd .lf 61 ((.st [(0,1,3),(1,1,22),(2,15,58)]),17,88,[.base (.int .i64 0),.nils,.base (.int .u8 0),.base (.int .u8 0),.base (.int .u8 0),.base (.int .u8 0),.base (.int .u8 0),.base (.int .u8 0),.base (.int .u8 0),.base (.int .u8 0),.base (.int .u8 0),.base (.int .u8 0),.base (.int .u8 0),.base (.int .u8 0),.base (.int .i64 0),.base (.int .i64 0),.nils]) .lf) 62 ((.st [(0,1,3),(1,1,3),(2,1,3)]),3,24,[.base (.int .i64 0),.base (.int .i64 0),.base (.int .i64 0)]) .lf) 63 ((.st [(0,1,3),(1,1,3),(2,1,3)]),3,24,[.base (.int .i64 0),.base (.int .i64 0),.base (.int .i64 0)]) (.nd .lf 69 ((.sl 22),1,24,[.nils]) .lf))) 76 ((.st [(0,1,22),(1,1,3)]),2,32,[.nils,.base (.int .i64 0)]) (.nd (.nd (.nd (.nd .lf 77 ((.st [(0,1,22),(1,1,3)]),2,32,[.nils,.base (.int .i64 0)]) .lf) 78 ((.int .i64),1,8,[.base (.int .i64 0)]) .lf) 86 ((.sl 137),1,24,[.nils]) (.nd .lf 90 ((.st [(0,1,3),(1,1,9),(2,1,9),(3,1,3),(4,1,3),(5,1,86)]),6,80,[.base (.int .i64 0),.base (.string ⟨#[]⟩),.base (.string ⟨#[]⟩),.base (.int .i64 0),.base (.int .i64 0),.nils]) .lf)) 91 ((.st [(0,1,3),(1,1,9),(2,1,9),(3,1,3),(4,1,3),(5,1,86)]),6,80,[.base (.int .i64 0),.base (.string ⟨#[]⟩),.base (.string ⟨#[]⟩),.base (.int .i64 0),.base (.int .i64 0),.nils]) (.nd (.nd (.nd .lf 93 ((.sl 9),1,24,[.nils]) .lf) 94 ((.ptr 3),1,8,[.base (.pointer none)]) .lf) 95 ((.st [(0,1,3),(1,1,3),(2,1,3)]),3,24,[.base (.int .i64 0),.base (.int .i64 0),.base (.int .i64 0)]) (.nd .lf 96 ((.st [(0,1,3),(1,1,3),(2,1,3)]),3,24,[.base (.int .i64 0),.base (.int .i64 0),.base (.int .i64 0)]) .lf)))) 99 ((.st [(0,3,27),(3,6,55),(9,1,3)]),10,40,[.base (.bool false),.base (.int .u64 0),.base (.int .u64 0),.base (.int .u8 0),.base (.int .u8 0),.base (.int .u8 0),.base (.int .u8 0),.base (.int .u8 0),.base (.int .u8 0),.base (.int .i64 0)]) (.nd (.nd (.nd (.nd (.nd .lf 100 ((.st [(0,3,27),(3,6,55),(9,1,3)]),10,40,[.base (.bool false),.base (.int .u64 0),.base (.int .u64 0),.base (.int .u8 0),.base (.int .u8 0),.base (.int .u8 0),.base (.int .u8 0),.base (.int .u8 0),.base (.int .u8 0),.base (.int .i64 0)]) .lf) 106 ((.st [(0,3,27),(3,3,27),(6,1,3),(7,1,3),(8,1,56)]),9,88,[.base (.bool false),.base (.int .u64 0),.base (.int .u64 0),.base (.bool false),.base (.int .u64 0),.base (.int .u64 0),.base (.int .i64 0),.base (.int .i64 0),.nils]) .lf) 107 ((.st [(0,3,27),(3,3,27),(6,1,3),(7,1,3),(8,1,56)]),9,88,[.base (.bool false),.base (.int .u64 0),.base (.int .u64 0),.base (.bool false),.base (.int .u64 0),.base (.int .u64 0),.base (.int .i64 0),.base (.int .i64 0),.nils]) (.nd .lf 109 ((.ptr 58),1,8,[.base (.pointer none)]) .lf)) 123 ((.arr 8 3),8,64,[.base (.int .i64 0),.base (.int .i64 0),.base (.int .i64 0),.base (.int .i64 0),.base (.int .i64 0),.base (.int .i64 0),.base (.int .i64 0),.base (.int .i64 0)]) (.nd (.nd (.nd .lf 124 ((.arr 8 123),64,512,[.base (.int .i64 0),.base (.int .i64 0),.base (.int .i64 0),.base (.int .i64 0),.base (.int .i64 0),.base (.int .i64 0),.base (.int .i64 0),.base (.int .i64 0),.base (.int .i64 0),.base (.int .i64 0),.base (.int .i64 0),.base (.int .i64 0),.base (.int .i64 0),.base (.int .i64 0),.base (.int .i64 0),.base (.int .i64 0),.base (.int .i64 0),.base (.int .i64 0),.base (.int .i64 0),.base (.int .i64 0),.base (.int .i64 0),.base (.int .i64 0),.base (.int .i64 0),.base (.int .i64 0),.base (.int .i64 0),.base (.int .i64 0),.base (.int .i64 0),.base (.int .i64 0),.base (.int .i64 0),.base (.int .i64 0),.base (.int .i64 0),.base (.int .i64 0),.base (.int .i64 0),.base (.int .i64 0),.base (.int .i64 0),.base (.int .i64 0),.base (.int .i64 0),.base (.int .i64 0),.base (.int .i64 0),.base (.int .i64 0),.base (.int .i64 0),.base (.int .i64 0),.base (.int .i64 0),.base (.int .i64 0),.base (.int .i64 0),.base (.int .i64 0),.base (.int .i64 0),.base (.int .i64 0),.base (.int .i64 0),.base (.int .i64 0),.base (.int .i64 0),.base (.int .i64 0),.base (.int .i64 0),.base (.int .i64 0),.base (.int .i64 0),.base (.int .i64 0),.base (.int .i64 0),.base (.int .i64 0),.base (.int .i64 0),.base (.int .i64 0),.base (.int .i64 0),.base (.int .i64 0),.base (.int .i64 0),.base (.int .i64 0)]) .lf) 125 ((.arr 8 123),64,512,[.base (.int .i64 0),.base (.int .i64 0),.base (.int .i64 0),.base (.int .i64 0),.base (.int .i64 0),.base (.int .i64 0),.base (.int .i64 0),.base (.int .i64 0),.base (.int .i64 0),.base (.int .i64 0),.base (.int .i64 0),.base (.int .i64 0),.base (.int .i64 0),.base (.int .i64 0),.base (.int .i64 0),.base (.int .i64 0),.base (.int .i64 0),.base (.int .i64 0),.base (.int .i64 0),.base (.int .i64 0),.base (.int .i64 0),.base (.int .i64 0),.base (.int .i64 0),.base (.int .i64 0),.base (.int .i64 0),.base (.int .i64 0),.base (.int .i64 0),.base (.int .i64 0),.base (.int .i64 0),.base (.int .i64 0),.base (.int .i64 0),.base (.int .i64 0),.base (.int .i64 0),.base (.int .i64 0),.base (.int .i64 0),.base (.int .i64 0),.base (.int .i64 0),.base (.int .i64 0),.base (.int .i64 0),.base (.int .i64 0),.base (.int .i64 0),.base (.int .i64 0),.base (.int .i64 0),.base (.int .i64 0),.base (.int .i64 0),.base (.int .i64 0),.base (.int .i64 0),.base (.int .i64 0),.base (.int .i64 0),.base (.int .i64 0),.base (.int .i64 0),.base (.int .i64 0),.base (.int .i64 0),.base (.int .i64 0),.base (.int .i64 0),.base (.int .i64 0),.base (.int .i64 0),.base (.int .i64 0),.base (.int .i64 0),.base (.int .i64 0),.base (.int .i64 0),.base (.int .i64 0),.base (.int .i64 0),.base (.int .i64 0)]) .lf) 128 ((.ptr 130),1,8,[.base (.pointer none)]) (.nd .lf 129 ((.st [(0,1,93),(1,1,4)]),2,32,[.nils,.base (.bool false)]) .lf))) 130 ((.st [(0,1,93),(1,1,4)]),2,32,[.nils,.base (.bool false)]) (.nd (.nd (.nd (.nd .lf 132 ((.ptr 91),1,8,[.base (.pointer none)]) .lf) 133 ((.st [(0,10,32),(10,1,132)]),11,120,[.base (.bool false),.base (.int .u64 0),.base (.int .u64 0),.base (.int .i64 0),.base (.bool false),.base (.int .u64 0),.base (.int .u64 0),.base (.int .i64 0),.nils,.nils,.base (.pointer none)]) .lf) 134 ((.st [(0,10,32),(10,1,132)]),11,120,[.base (.bool false),.base (.int .u64 0),.base (.int .u64 0),.base (.int .i64 0),.base (.bool false),.base (.int .u64 0),.base (.int .u64 0),.base (.int .i64 0),.nils,.nils,.base (.pointer none)]) (.nd .lf 136 ((.st [(0,1,3),(1,1,3),(2,1,3),(3,1,49),(4,3,27),(7,3,27)]),10,96,[.base (.int .i64 0),.base (.int .i64 0),.base (.int .i64 0),.nils,.base (.bool false),.base (.int .u64 0),.base (.int .u64 0),.base (.bool false),.base (.int .u64 0),.base (.int .u64 0)]) .lf)) 137 ((.st [(0,1,3),(1,1,3),(2,1,3),(3,1,49),(4,3,27),(7,3,27)]),10,96,[.base (.int .i64 0),.base (.int .i64 0),.base (.int .i64 0),.nils,.base (.bool false),.base (.int .u64 0),.base (.int .u64 0),.base (.bool false),.base (.int .u64 0),.base (.int .u64 0)]) (.nd (.nd (.nd .lf 147 ((.arr 2 3),2,16,[.base (.int .i64 0),.base (.int .i64 0)]) .lf) 148 ((.arr 2 147),4,32,[.base (.int .i64 0),.base (.int .i64 0),.base (.int .i64 0),.base (.int .i64 0)]) .lf) 150 ((.st [(0,1,3),(1,6,55),(7,3,27),(10,6,55),(16,3,27)]),19,72,[.base (.int .i64 0),.base (.int .u8 0),.base (.int .u8 0),.base (.int .u8 0),.base (.int .u8 0),.base (.int .u8 0),.base (.int .u8 0),.base (.bool false),.base (.int .u64 0),.base (.int .u64 0),.base (.int .u8 0),.base (.int .u8 0),.base (.int .u8 0),.base (.int .u8 0),.base (.int .u8 0),.base (.int .u8 0),.base (.bool false),.base (.int .u64 0),.base (.int .u64 0)]) (.nd .lf 151 ((.st [(0,1,3),(1,6,55),(7,3,27),(10,6,55),(16,3,27)]),19,72,[.base (.int .i64 0),.base (.int .u8 0),.base (.int .u8 0),.base (.int .u8 0),.base (.int .u8 0),.base (.int .u8 0),.base (.int .u8 0),.base (.bool false),.base (.int .u64 0),.base (.int .u64 0),.base (.int .u8 0),.base (.int .u8 0),.base (.int .u8 0),.base (.int .u8 0),.base (.int .u8 0),.base (.int .u8 0),.base (.bool false),.base (.int .u64 0),.base (.int .u64 0)]) .lf))))
theorem tyTab1_ok:tyTab1.All TyP:=⟨⟨⟨⟨⟨⟨trivial,ty54,trivial⟩,ty55,trivial⟩,ty56,⟨⟨trivial,ty57,trivial⟩,ty58,trivial⟩⟩,ty60,⟨⟨⟨trivial,ty61,trivial⟩,ty62,trivial⟩,ty63,⟨trivial,ty69,trivial⟩⟩⟩,ty76,⟨⟨⟨⟨trivial,ty77,trivial⟩,ty78,trivial⟩,ty86,⟨trivial,ty90,trivial⟩⟩,ty91,⟨⟨⟨trivial,ty93,trivial⟩,ty94,trivial⟩,ty95,⟨trivial,ty96,trivial⟩⟩⟩⟩,ty99,⟨⟨⟨⟨⟨trivial,ty100,trivial⟩,ty106,trivial⟩,ty107,⟨trivial,ty109,trivial⟩⟩,ty123,⟨⟨⟨trivial,ty124,trivial⟩,ty125,trivial⟩,ty128,⟨trivial,ty129,trivial⟩⟩⟩,ty130,⟨⟨⟨⟨trivial,ty132,trivial⟩,ty133,trivial⟩,ty134,⟨trivial,ty136,trivial⟩⟩,ty137,⟨⟨⟨trivial,ty147,trivial⟩,ty148,trivial⟩,ty150,⟨trivial,ty151,trivial⟩⟩⟩⟩⟩
noncomputable def tyTab2:BT TyRow:=.nd (.nd (.nd (.nd (.nd (.nd .lf 155 ((.int .u64),1,8,[.base (.int .u64 0)]) .lf) 157 ((.int .u16),1,2,[.base (.int .u16 0)]) .lf) 160 ((.st [(0,1,3),(1,1,3),(2,3,27),(5,1,4),(6,6,55)]),12,48,[.base (.int .i64 0),.base (.int .i64 0),.base (.bool false),.base (.int .u64 0),.base (.int .u64 0),.base (.bool false),.base (.int .u8 0),.base (.int .u8 0),.base (.int .u8 0),.base (.int .u8 0),.base (.int .u8 0),.base (.int .u8 0)]) (.nd (.nd .lf 161 ((.st [(0,1,3),(1,1,3),(2,3,27),(5,1,4),(6,6,55)]),12,48,[.base (.int .i64 0),.base (.int .i64 0),.base (.bool false),.base (.int .u64 0),.base (.int .u64 0),.base (.bool false),.base (.int .u8 0),.base (.int .u8 0),.base (.int .u8 0),.base (.int .u8 0),.base (.int .u8 0),.base (.int .u8 0)]) .lf) 178 ((.ptr 125),1,8,[.base (.pointer none)]) .lf)) 180 ((.ptr 182),1,8,[.base (.pointer none)]) (.nd (.nd (.nd .lf 181 ((.st [(0,1,180),(1,1,56)]),2,32,[.base (.pointer none),.nils]) .lf) 182 ((.st [(0,1,180),(1,1,56)]),2,32,[.base (.pointer none),.nils]) .lf) 197 ((.ptr 134),1,8,[.base (.pointer none)]) (.nd .lf 199 ((.ptr 30),1,8,[.base (.pointer none)]) .lf))) 211 ((.map 9 4),1,8,[.base (.map none)]) (.nd (.nd (.nd (.nd .lf 212 ((.map 55 4),1,8,[.base (.map none)]) .lf) 213 ((.map 27 4),1,8,[.base (.map none)]) .lf) 220 ((.sl 56),1,24,[.nils]) (.nd .lf 250 ((.ptr 5),1,8,[.base (.pointer none)]) .lf)) 281 ((.arr 8 25),8,64,[.base (.int .u64 0),.base (.int .u64 0),.base (.int .u64 0),.base (.int .u64 0),.base (.int .u64 0),.base (.int .u64 0),.base (.int .u64 0),.base (.int .u64 0)]) (.nd (.nd (.nd .lf 286 ((.sl 25),1,24,[.nils]) .lf) 287 ((.sl 30),1,24,[.nils]) .lf) 305 ((.arr 256 4),256,256,(List.replicate 256 (.base (.bool false)))) (.nd .lf 309 ((.ptr 305),1,8,[.base (.pointer none)]) .lf)))) 311 ((.arr 24 5),24,24,[.base (.int .u8 0),.base (.int .u8 0),.base (.int .u8 0),.base (.int .u8 0),.base (.int .u8 0),.base (.int .u8 0),.base (.int .u8 0),.base (.int .u8 0),.base (.int .u8 0),.base (.int .u8 0),.base (.int .u8 0),.base (.int .u8 0),.base (.int .u8 0),.base (.int .u8 0),.base (.int .u8 0),.base (.int .u8 0),.base (.int .u8 0),.base (.int .u8 0),.base (.int .u8 0),.base (.int .u8 0),.base (.int .u8 0),.base (.int .u8 0),.base (.int .u8 0),.base (.int .u8 0)]) (.nd (.nd (.nd (.nd (.nd .lf 321 ((.arr 20 25),20,160,[.base (.int .u64 0),.base (.int .u64 0),.base (.int .u64 0),.base (.int .u64 0),.base (.int .u64 0),.base (.int .u64 0),.base (.int .u64 0),.base (.int .u64 0),.base (.int .u64 0),.base (.int .u64 0),.base (.int .u64 0),.base (.int .u64 0),.base (.int .u64 0),.base (.int .u64 0),.base (.int .u64 0),.base (.int .u64 0),.base (.int .u64 0),.base (.int .u64 0),.base (.int .u64 0),.base (.int .u64 0)]) .lf) 322 ((.int .u32),1,4,[.base (.int .u32 0)]) .lf) 323 ((.arr 65 5),65,65,(List.replicate 65 (.base (.int .u8 0)))) (.nd .lf 326 ((.st [(0,1,5),(1,1,5)]),2,2,[.base (.int .u8 0),.base (.int .u8 0)]) .lf)) 327 ((.st [(0,1,5),(1,1,5)]),2,2,[.base (.int .u8 0),.base (.int .u8 0)]) (.nd (.nd (.nd .lf 328 ((.arr 16 327),32,32,[.base (.int .u8 0),.base (.int .u8 0),.base (.int .u8 0),.base (.int .u8 0),.base (.int .u8 0),.base (.int .u8 0),.base (.int .u8 0),.base (.int .u8 0),.base (.int .u8 0),.base (.int .u8 0),.base (.int .u8 0),.base (.int .u8 0),.base (.int .u8 0),.base (.int .u8 0),.base (.int .u8 0),.base (.int .u8 0),.base (.int .u8 0),.base (.int .u8 0),.base (.int .u8 0),.base (.int .u8 0),.base (.int .u8 0),.base (.int .u8 0),.base (.int .u8 0),.base (.int .u8 0),.base (.int .u8 0),.base (.int .u8 0),.base (.int .u8 0),.base (.int .u8 0),.base (.int .u8 0),.base (.int .u8 0),.base (.int .u8 0),.base (.int .u8 0)]) .lf) 333 ((.int .i64),1,8,[.base (.int .i64 0)]) .lf) 336 ((.ptr 344),1,8,[.base (.pointer none)]) (.nd .lf 347 ((.arr 32 5),32,32,[.base (.int .u8 0),.base (.int .u8 0),.base (.int .u8 0),.base (.int .u8 0),.base (.int .u8 0),.base (.int .u8 0),.base (.int .u8 0),.base (.int .u8 0),.base (.int .u8 0),.base (.int .u8 0),.base (.int .u8 0),.base (.int .u8 0),.base (.int .u8 0),.base (.int .u8 0),.base (.int .u8 0),.base (.int .u8 0),.base (.int .u8 0),.base (.int .u8 0),.base (.int .u8 0),.base (.int .u8 0),.base (.int .u8 0),.base (.int .u8 0),.base (.int .u8 0),.base (.int .u8 0),.base (.int .u8 0),.base (.int .u8 0),.base (.int .u8 0),.base (.int .u8 0),.base (.int .u8 0),.base (.int .u8 0),.base (.int .u8 0),.base (.int .u8 0)]) .lf))) 348 ((.arr 64 5),64,64,[.base (.int .u8 0),.base (.int .u8 0),.base (.int .u8 0),.base (.int .u8 0),.base (.int .u8 0),.base (.int .u8 0),.base (.int .u8 0),.base (.int .u8 0),.base (.int .u8 0),.base (.int .u8 0),.base (.int .u8 0),.base (.int .u8 0),.base (.int .u8 0),.base (.int .u8 0),.base (.int .u8 0),.base (.int .u8 0),.base (.int .u8 0),.base (.int .u8 0),.base (.int .u8 0),.base (.int .u8 0),.base (.int .u8 0),.base (.int .u8 0),.base (.int .u8 0),.base (.int .u8 0),.base (.int .u8 0),.base (.int .u8 0),.base (.int .u8 0),.base (.int .u8 0),.base (.int .u8 0),.base (.int .u8 0),.base (.int .u8 0),.base (.int .u8 0),.base (.int .u8 0),.base (.int .u8 0),.base (.int .u8 0),.base (.int .u8 0),.base (.int .u8 0),.base (.int .u8 0),.base (.int .u8 0),.base (.int .u8 0),.base (.int .u8 0),.base (.int .u8 0),.base (.int .u8 0),.base (.int .u8 0),.base (.int .u8 0),.base (.int .u8 0),.base (.int .u8 0),.base (.int .u8 0),.base (.int .u8 0),.base (.int .u8 0),.base (.int .u8 0),.base (.int .u8 0),.base (.int .u8 0),.base (.int .u8 0),.base (.int .u8 0),.base (.int .u8 0),.base (.int .u8 0),.base (.int .u8 0),.base (.int .u8 0),.base (.int .u8 0),.base (.int .u8 0),.base (.int .u8 0),.base (.int .u8 0),.base (.int .u8 0)]) (.nd (.nd (.nd (.nd .lf 350 ((.ptr 352),1,8,[.base (.pointer none)]) .lf) 351 ((.st [(0,1,9)]),1,16,[.base (.string ⟨#[]⟩)]) .lf) 352 ((.st [(0,1,9)]),1,16,[.base (.string ⟨#[]⟩)]) (.nd .lf 353 ((.st [(0,1,17),(1,1,17),(2,1,17),(3,1,9)]),4,40,[.base (.pointer none),.base (.pointer none),.base (.pointer none),.base (.string ⟨#[]⟩)]) .lf)) 354 ((.st [(0,1,17),(1,1,17),(2,1,17),(3,1,9)]),4,40,[.base (.pointer none),.base (.pointer none),.base (.pointer none),.base (.string ⟨#[]⟩)]) (.nd (.nd (.nd .lf 355 ((.arr 0 16),0,0,[]) .lf) 356 ((.st [(0,0,355)]),0,0,[]) .lf) 357 ((.st [(0,0,355)]),0,0,[]) (.nd .lf 358 ((.int .u8),1,1,[.base (.int .u8 0)]) .lf))))
theorem tyTab2_ok:tyTab2.All TyP:=⟨⟨⟨⟨⟨⟨trivial,ty155,trivial⟩,ty157,trivial⟩,ty160,⟨⟨trivial,ty161,trivial⟩,ty178,trivial⟩⟩,ty180,⟨⟨⟨trivial,ty181,trivial⟩,ty182,trivial⟩,ty197,⟨trivial,ty199,trivial⟩⟩⟩,ty211,⟨⟨⟨⟨trivial,ty212,trivial⟩,ty213,trivial⟩,ty220,⟨trivial,ty250,trivial⟩⟩,ty281,⟨⟨⟨trivial,ty286,trivial⟩,ty287,trivial⟩,tyG305,⟨trivial,ty309,trivial⟩⟩⟩⟩,ty311,⟨⟨⟨⟨⟨trivial,ty321,trivial⟩,ty322,trivial⟩,tyG323,⟨trivial,ty326,trivial⟩⟩,ty327,⟨⟨⟨trivial,ty328,trivial⟩,ty333,trivial⟩,ty336,⟨trivial,ty347,trivial⟩⟩⟩,ty348,⟨⟨⟨⟨trivial,ty350,trivial⟩,ty351,trivial⟩,ty352,⟨trivial,ty353,trivial⟩⟩,ty354,⟨⟨⟨trivial,ty355,trivial⟩,ty356,trivial⟩,ty357,⟨trivial,ty358,trivial⟩⟩⟩⟩⟩
noncomputable def tyTab3:BT TyRow:=.nd (.nd .lf 359 ((.int .u8),1,1,[.base (.int .u8 0)]) .lf) 361 ((.int .i32),1,4,[.base (.int .i32 0)]) (.nd .lf 362 ((.int .i32),1,4,[.base (.int .i32 0)]) .lf)
theorem tyTab3_ok:tyTab3.All TyP:=⟨⟨trivial,ty359,trivial⟩,ty361,⟨trivial,ty362,trivial⟩⟩
noncomputable def tyTab (t:Nat):Option TyRow:=match Nat.blt t 54 with
 | true=>tyTab0.get t
 | false=>match Nat.blt t 155 with
 | true=>tyTab1.get t
 | false=>match Nat.blt t 359 with
 | true=>tyTab2.get t
 | false=>tyTab3.get t
theorem tyTab_ok (t:Nat) (v:TyRow) (h:tyTab t=some v):TyP t v:=by
 unfold tyTab at h
 split at h
 ·exact BT.get_ok tyTab0_ok h
 split at h
 ·exact BT.get_ok tyTab1_ok h
 split at h
 ·exact BT.get_ok tyTab2_ok h
 exact BT.get_ok tyTab3_ok h
noncomputable def fnTab0:BT Func:=.nd (.nd (.nd (.nd (.nd (.nd .lf 5 Tryz.f5 .lf) 6 Tryz.f6 .lf) 7 Tryz.f7 (.nd (.nd .lf 11 Tryz.f11 .lf) 12 Tryz.f12 .lf)) 14 Tryz.f14 (.nd (.nd (.nd .lf 16 Tryz.f16 .lf) 17 Tryz.f17 .lf) 19 Tryz.f19 (.nd .lf 20 Tryz.f20 .lf))) 23 Tryz.f23 (.nd (.nd (.nd (.nd .lf 24 Tryz.f24 .lf) 25 Tryz.f25 .lf) 26 Tryz.f26 (.nd .lf 27 Tryz.f27 .lf)) 28 Tryz.f28 (.nd (.nd (.nd .lf 29 Tryz.f29 .lf) 30 Tryz.f30 .lf) 31 Tryz.f31 (.nd .lf 32 Tryz.f32 .lf)))) 33 Tryz.f33 (.nd (.nd (.nd (.nd (.nd .lf 35 Tryz.f35 .lf) 37 Tryz.f37 .lf) 42 Tryz.f42 (.nd .lf 44 Tryz.f44 .lf)) 45 Tryz.f45 (.nd (.nd (.nd .lf 46 Tryz.f46 .lf) 47 Tryz.f47 .lf) 48 Tryz.f48 (.nd .lf 49 Tryz.f49 .lf))) 50 Tryz.f50 (.nd (.nd (.nd (.nd .lf 52 Tryz.f52 .lf) 55 Tryz.f55 .lf) 56 Tryz.f56 (.nd .lf 57 Tryz.f57 .lf)) 58 Tryz.f58 (.nd (.nd (.nd .lf 59 Tryz.f59 .lf) 60 Tryz.f60 .lf) 61 Tryz.f61 (.nd .lf 62 Tryz.f62 .lf))))
theorem fnTab0_ok:fnTab0.All FnP:=⟨⟨⟨⟨⟨⟨trivial,⟨Tryz.func5,by kernel_rfl⟩,trivial⟩,⟨Tryz.func6,by kernel_rfl⟩,trivial⟩,⟨Tryz.func7,by kernel_rfl⟩,⟨⟨trivial,⟨Tryz.func11,by kernel_rfl⟩,trivial⟩,⟨Tryz.func12,by kernel_rfl⟩,trivial⟩⟩,⟨Tryz.func14,by kernel_rfl⟩,⟨⟨⟨trivial,⟨Tryz.func16,by kernel_rfl⟩,trivial⟩,⟨Tryz.func17,by kernel_rfl⟩,trivial⟩,⟨Tryz.func19,by kernel_rfl⟩,⟨trivial,⟨Tryz.func20,by kernel_rfl⟩,trivial⟩⟩⟩,⟨Tryz.func23,by kernel_rfl⟩,⟨⟨⟨⟨trivial,⟨Tryz.func24,by kernel_rfl⟩,trivial⟩,⟨Tryz.func25,by kernel_rfl⟩,trivial⟩,⟨Tryz.func26,by kernel_rfl⟩,⟨trivial,⟨Tryz.func27,by kernel_rfl⟩,trivial⟩⟩,⟨Tryz.func28,by kernel_rfl⟩,⟨⟨⟨trivial,⟨Tryz.func29,by kernel_rfl⟩,trivial⟩,⟨Tryz.func30,by kernel_rfl⟩,trivial⟩,⟨Tryz.func31,by kernel_rfl⟩,⟨trivial,⟨Tryz.func32,by kernel_rfl⟩,trivial⟩⟩⟩⟩,⟨Tryz.func33,by kernel_rfl⟩,⟨⟨⟨⟨⟨trivial,⟨Tryz.func35,by kernel_rfl⟩,trivial⟩,⟨Tryz.func37,by kernel_rfl⟩,trivial⟩,⟨Tryz.func42,by kernel_rfl⟩,⟨trivial,⟨Tryz.func44,by kernel_rfl⟩,trivial⟩⟩,⟨Tryz.func45,by kernel_rfl⟩,⟨⟨⟨trivial,⟨Tryz.func46,by kernel_rfl⟩,trivial⟩,⟨Tryz.func47,by kernel_rfl⟩,trivial⟩,⟨Tryz.func48,by kernel_rfl⟩,⟨trivial,⟨Tryz.func49,by kernel_rfl⟩,trivial⟩⟩⟩,⟨Tryz.func50,by kernel_rfl⟩,⟨⟨⟨⟨trivial,⟨Tryz.func52,by kernel_rfl⟩,trivial⟩,⟨Tryz.func55,by kernel_rfl⟩,trivial⟩,⟨Tryz.func56,by kernel_rfl⟩,⟨trivial,⟨Tryz.func57,by kernel_rfl⟩,trivial⟩⟩,⟨Tryz.func58,by kernel_rfl⟩,⟨⟨⟨trivial,⟨Tryz.func59,by kernel_rfl⟩,trivial⟩,⟨Tryz.func60,by kernel_rfl⟩,trivial⟩,⟨Tryz.func61,by kernel_rfl⟩,⟨trivial,⟨Tryz.func62,by kernel_rfl⟩,trivial⟩⟩⟩⟩⟩
noncomputable def fnTab1:BT Func:=.nd (.nd (.nd (.nd (.nd (.nd .lf 63 Tryz.f63 .lf) 64 Tryz.f64 .lf) 65 Tryz.f65 (.nd (.nd .lf 66 Tryz.f66 .lf) 67 Tryz.f67 .lf)) 68 Tryz.f68 (.nd (.nd (.nd .lf 69 Tryz.f69 .lf) 70 Tryz.f70 .lf) 71 Tryz.f71 (.nd .lf 72 Tryz.f72 .lf))) 73 Tryz.f73 (.nd (.nd (.nd (.nd .lf 74 Tryz.f74 .lf) 75 Tryz.f75 .lf) 76 Tryz.f76 (.nd .lf 77 Tryz.f77 .lf)) 79 Tryz.f79 (.nd (.nd (.nd .lf 88 Tryz.f88 .lf) 89 Tryz.f89 .lf) 90 Tryz.f90 (.nd .lf 91 Tryz.f91 .lf)))) 92 Tryz.f92 (.nd (.nd (.nd (.nd (.nd .lf 93 Tryz.f93 .lf) 94 Tryz.f94 .lf) 95 Tryz.f95 (.nd .lf 96 Tryz.f96 .lf)) 97 Tryz.f97 (.nd (.nd (.nd .lf 98 Tryz.f98 .lf) 100 Tryz.f100 .lf) 101 Tryz.f101 (.nd .lf 102 Tryz.f102 .lf))) 103 Tryz.f103 (.nd (.nd (.nd (.nd .lf 104 Tryz.f104 .lf) 105 Tryz.f105 .lf) 106 Tryz.f106 (.nd .lf 107 Tryz.f107 .lf)) 108 Tryz.f108 (.nd (.nd (.nd .lf 109 Tryz.f109 .lf) 110 Tryz.f110 .lf) 111 Tryz.f111 (.nd .lf 112 Tryz.f112 .lf))))
theorem fnTab1_ok:fnTab1.All FnP:=⟨⟨⟨⟨⟨⟨trivial,⟨Tryz.func63,by kernel_rfl⟩,trivial⟩,⟨Tryz.func64,by kernel_rfl⟩,trivial⟩,⟨Tryz.func65,by kernel_rfl⟩,⟨⟨trivial,⟨Tryz.func66,by kernel_rfl⟩,trivial⟩,⟨Tryz.func67,by kernel_rfl⟩,trivial⟩⟩,⟨Tryz.func68,by kernel_rfl⟩,⟨⟨⟨trivial,⟨Tryz.func69,by kernel_rfl⟩,trivial⟩,⟨Tryz.func70,by kernel_rfl⟩,trivial⟩,⟨Tryz.func71,by kernel_rfl⟩,⟨trivial,⟨Tryz.func72,by kernel_rfl⟩,trivial⟩⟩⟩,⟨Tryz.func73,by kernel_rfl⟩,⟨⟨⟨⟨trivial,⟨Tryz.func74,by kernel_rfl⟩,trivial⟩,⟨Tryz.func75,by kernel_rfl⟩,trivial⟩,⟨Tryz.func76,by kernel_rfl⟩,⟨trivial,⟨Tryz.func77,by kernel_rfl⟩,trivial⟩⟩,⟨Tryz.func79,by kernel_rfl⟩,⟨⟨⟨trivial,⟨Tryz.func88,by kernel_rfl⟩,trivial⟩,⟨Tryz.func89,by kernel_rfl⟩,trivial⟩,⟨Tryz.func90,by kernel_rfl⟩,⟨trivial,⟨Tryz.func91,by kernel_rfl⟩,trivial⟩⟩⟩⟩,⟨Tryz.func92,by kernel_rfl⟩,⟨⟨⟨⟨⟨trivial,⟨Tryz.func93,by kernel_rfl⟩,trivial⟩,⟨Tryz.func94,by kernel_rfl⟩,trivial⟩,⟨Tryz.func95,by kernel_rfl⟩,⟨trivial,⟨Tryz.func96,by kernel_rfl⟩,trivial⟩⟩,⟨Tryz.func97,by kernel_rfl⟩,⟨⟨⟨trivial,⟨Tryz.func98,by kernel_rfl⟩,trivial⟩,⟨Tryz.func100,by kernel_rfl⟩,trivial⟩,⟨Tryz.func101,by kernel_rfl⟩,⟨trivial,⟨Tryz.func102,by kernel_rfl⟩,trivial⟩⟩⟩,⟨Tryz.func103,by kernel_rfl⟩,⟨⟨⟨⟨trivial,⟨Tryz.func104,by kernel_rfl⟩,trivial⟩,⟨Tryz.func105,by kernel_rfl⟩,trivial⟩,⟨Tryz.func106,by kernel_rfl⟩,⟨trivial,⟨Tryz.func107,by kernel_rfl⟩,trivial⟩⟩,⟨Tryz.func108,by kernel_rfl⟩,⟨⟨⟨trivial,⟨Tryz.func109,by kernel_rfl⟩,trivial⟩,⟨Tryz.func110,by kernel_rfl⟩,trivial⟩,⟨Tryz.func111,by kernel_rfl⟩,⟨trivial,⟨Tryz.func112,by kernel_rfl⟩,trivial⟩⟩⟩⟩⟩
noncomputable def fnTab2:BT Func:=.nd (.nd (.nd (.nd (.nd (.nd .lf 113 Tryz.f113 .lf) 114 Tryz.f114 .lf) 115 Tryz.f115 (.nd (.nd .lf 116 Tryz.f116 .lf) 117 Tryz.f117 .lf)) 118 Tryz.f118 (.nd (.nd (.nd .lf 119 Tryz.f119 .lf) 120 Tryz.f120 .lf) 121 Tryz.f121 (.nd .lf 122 Tryz.f122 .lf))) 123 Tryz.f123 (.nd (.nd (.nd (.nd .lf 124 Tryz.f124 .lf) 125 Tryz.f125 .lf) 126 Tryz.f126 (.nd .lf 127 Tryz.f127 .lf)) 128 Tryz.f128 (.nd (.nd (.nd .lf 129 Tryz.f129 .lf) 130 Tryz.f130 .lf) 131 Tryz.f131 (.nd .lf 132 Tryz.f132 .lf)))) 133 Tryz.f133 (.nd (.nd (.nd (.nd (.nd .lf 134 Tryz.f134 .lf) 135 Tryz.f135 .lf) 136 Tryz.f136 (.nd .lf 137 Tryz.f137 .lf)) 138 Tryz.f138 (.nd (.nd (.nd .lf 145 Tryz.f145 .lf) 146 Tryz.f146 .lf) 147 Tryz.f147 (.nd .lf 148 Tryz.f148 .lf))) 149 Tryz.f149 (.nd (.nd (.nd (.nd .lf 150 Tryz.f150 .lf) 151 Tryz.f151 .lf) 152 Tryz.f152 (.nd .lf 153 Tryz.f153 .lf)) 154 Tryz.f154 (.nd (.nd (.nd .lf 155 Tryz.f155 .lf) 156 Tryz.f156 .lf) 157 Tryz.f157 (.nd .lf 158 Tryz.f158 .lf))))
theorem fnTab2_ok:fnTab2.All FnP:=⟨⟨⟨⟨⟨⟨trivial,⟨Tryz.func113,by kernel_rfl⟩,trivial⟩,⟨Tryz.func114,by kernel_rfl⟩,trivial⟩,⟨Tryz.func115,by kernel_rfl⟩,⟨⟨trivial,⟨Tryz.func116,by kernel_rfl⟩,trivial⟩,⟨Tryz.func117,by kernel_rfl⟩,trivial⟩⟩,⟨Tryz.func118,by kernel_rfl⟩,⟨⟨⟨trivial,⟨Tryz.func119,by kernel_rfl⟩,trivial⟩,⟨Tryz.func120,by kernel_rfl⟩,trivial⟩,⟨Tryz.func121,by kernel_rfl⟩,⟨trivial,⟨Tryz.func122,by kernel_rfl⟩,trivial⟩⟩⟩,⟨Tryz.func123,by kernel_rfl⟩,⟨⟨⟨⟨trivial,⟨Tryz.func124,by kernel_rfl⟩,trivial⟩,⟨Tryz.func125,by kernel_rfl⟩,trivial⟩,⟨Tryz.func126,by kernel_rfl⟩,⟨trivial,⟨Tryz.func127,by kernel_rfl⟩,trivial⟩⟩,⟨Tryz.func128,by kernel_rfl⟩,⟨⟨⟨trivial,⟨Tryz.func129,by kernel_rfl⟩,trivial⟩,⟨Tryz.func130,by kernel_rfl⟩,trivial⟩,⟨Tryz.func131,by kernel_rfl⟩,⟨trivial,⟨Tryz.func132,by kernel_rfl⟩,trivial⟩⟩⟩⟩,⟨Tryz.func133,by kernel_rfl⟩,⟨⟨⟨⟨⟨trivial,⟨Tryz.func134,by kernel_rfl⟩,trivial⟩,⟨Tryz.func135,by kernel_rfl⟩,trivial⟩,⟨Tryz.func136,by kernel_rfl⟩,⟨trivial,⟨Tryz.func137,by kernel_rfl⟩,trivial⟩⟩,⟨Tryz.func138,by kernel_rfl⟩,⟨⟨⟨trivial,⟨Tryz.func145,by kernel_rfl⟩,trivial⟩,⟨Tryz.func146,by kernel_rfl⟩,trivial⟩,⟨Tryz.func147,by kernel_rfl⟩,⟨trivial,⟨Tryz.func148,by kernel_rfl⟩,trivial⟩⟩⟩,⟨Tryz.func149,by kernel_rfl⟩,⟨⟨⟨⟨trivial,⟨Tryz.func150,by kernel_rfl⟩,trivial⟩,⟨Tryz.func151,by kernel_rfl⟩,trivial⟩,⟨Tryz.func152,by kernel_rfl⟩,⟨trivial,⟨Tryz.func153,by kernel_rfl⟩,trivial⟩⟩,⟨Tryz.func154,by kernel_rfl⟩,⟨⟨⟨trivial,⟨Tryz.func155,by kernel_rfl⟩,trivial⟩,⟨Tryz.func156,by kernel_rfl⟩,trivial⟩,⟨Tryz.func157,by kernel_rfl⟩,⟨trivial,⟨Tryz.func158,by kernel_rfl⟩,trivial⟩⟩⟩⟩⟩
noncomputable def fnTab3:BT Func:=.nd (.nd (.nd (.nd (.nd (.nd .lf 159 Tryz.f159 .lf) 160 Tryz.f160 .lf) 161 Tryz.f161 (.nd (.nd .lf 162 Tryz.f162 .lf) 163 Tryz.f163 .lf)) 164 Tryz.f164 (.nd (.nd (.nd .lf 165 Tryz.f165 .lf) 166 Tryz.f166 .lf) 167 Tryz.f167 (.nd .lf 168 Tryz.f168 .lf))) 169 Tryz.f169 (.nd (.nd (.nd (.nd .lf 170 Tryz.f170 .lf) 171 Tryz.f171 .lf) 172 Tryz.f172 (.nd .lf 173 Tryz.f173 .lf)) 174 Tryz.f174 (.nd (.nd (.nd .lf 175 Tryz.f175 .lf) 176 Tryz.f176 .lf) 177 Tryz.f177 (.nd .lf 178 Tryz.f178 .lf)))) 179 Tryz.f179 (.nd (.nd (.nd (.nd (.nd .lf 180 Tryz.f180 .lf) 181 Tryz.f181 .lf) 182 Tryz.f182 (.nd .lf 183 Tryz.f183 .lf)) 184 Tryz.f184 (.nd (.nd (.nd .lf 185 Tryz.f185 .lf) 186 Tryz.f186 .lf) 187 Tryz.f187 (.nd .lf 188 Tryz.f188 .lf))) 189 Tryz.f189 (.nd (.nd (.nd (.nd .lf 190 Tryz.f190 .lf) 191 Tryz.f191 .lf) 192 Tryz.f192 (.nd .lf 193 Tryz.f193 .lf)) 194 Tryz.f194 (.nd (.nd (.nd .lf 195 Tryz.f195 .lf) 196 Tryz.f196 .lf) 197 Tryz.f197 (.nd .lf 200 Tryz.f200 .lf))))
theorem fnTab3_ok:fnTab3.All FnP:=⟨⟨⟨⟨⟨⟨trivial,⟨Tryz.func159,by kernel_rfl⟩,trivial⟩,⟨Tryz.func160,by kernel_rfl⟩,trivial⟩,⟨Tryz.func161,by kernel_rfl⟩,⟨⟨trivial,⟨Tryz.func162,by kernel_rfl⟩,trivial⟩,⟨Tryz.func163,by kernel_rfl⟩,trivial⟩⟩,⟨Tryz.func164,by kernel_rfl⟩,⟨⟨⟨trivial,⟨Tryz.func165,by kernel_rfl⟩,trivial⟩,⟨Tryz.func166,by kernel_rfl⟩,trivial⟩,⟨Tryz.func167,by kernel_rfl⟩,⟨trivial,⟨Tryz.func168,by kernel_rfl⟩,trivial⟩⟩⟩,⟨Tryz.func169,by kernel_rfl⟩,⟨⟨⟨⟨trivial,⟨Tryz.func170,by kernel_rfl⟩,trivial⟩,⟨Tryz.func171,by kernel_rfl⟩,trivial⟩,⟨Tryz.func172,by kernel_rfl⟩,⟨trivial,⟨Tryz.func173,by kernel_rfl⟩,trivial⟩⟩,⟨Tryz.func174,by kernel_rfl⟩,⟨⟨⟨trivial,⟨Tryz.func175,by kernel_rfl⟩,trivial⟩,⟨Tryz.func176,by kernel_rfl⟩,trivial⟩,⟨Tryz.func177,by kernel_rfl⟩,⟨trivial,⟨Tryz.func178,by kernel_rfl⟩,trivial⟩⟩⟩⟩,⟨Tryz.func179,by kernel_rfl⟩,⟨⟨⟨⟨⟨trivial,⟨Tryz.func180,by kernel_rfl⟩,trivial⟩,⟨Tryz.func181,by kernel_rfl⟩,trivial⟩,⟨Tryz.func182,by kernel_rfl⟩,⟨trivial,⟨Tryz.func183,by kernel_rfl⟩,trivial⟩⟩,⟨Tryz.func184,by kernel_rfl⟩,⟨⟨⟨trivial,⟨Tryz.func185,by kernel_rfl⟩,trivial⟩,⟨Tryz.func186,by kernel_rfl⟩,trivial⟩,⟨Tryz.func187,by kernel_rfl⟩,⟨trivial,⟨Tryz.func188,by kernel_rfl⟩,trivial⟩⟩⟩,⟨Tryz.func189,by kernel_rfl⟩,⟨⟨⟨⟨trivial,⟨Tryz.func190,by kernel_rfl⟩,trivial⟩,⟨Tryz.func191,by kernel_rfl⟩,trivial⟩,⟨Tryz.func192,by kernel_rfl⟩,⟨trivial,⟨Tryz.func193,by kernel_rfl⟩,trivial⟩⟩,⟨Tryz.func194,by kernel_rfl⟩,⟨⟨⟨trivial,⟨Tryz.func195,by kernel_rfl⟩,trivial⟩,⟨Tryz.func196,by kernel_rfl⟩,trivial⟩,⟨Tryz.func197,by kernel_rfl⟩,⟨trivial,⟨Tryz.func200,by kernel_rfl⟩,trivial⟩⟩⟩⟩⟩
noncomputable def fnTab4:BT Func:=.nd (.nd (.nd (.nd (.nd (.nd .lf 201 Tryz.f201 .lf) 202 Tryz.f202 .lf) 203 Tryz.f203 (.nd (.nd .lf 204 Tryz.f204 .lf) 205 Tryz.f205 .lf)) 206 Tryz.f206 (.nd (.nd (.nd .lf 207 Tryz.f207 .lf) 208 Tryz.f208 .lf) 209 Tryz.f209 (.nd .lf 210 Tryz.f210 .lf))) 211 Tryz.f211 (.nd (.nd (.nd (.nd .lf 212 Tryz.f212 .lf) 213 Tryz.f213 .lf) 214 Tryz.f214 (.nd .lf 215 Tryz.f215 .lf)) 217 Tryz.f217 (.nd (.nd (.nd .lf 218 Tryz.f218 .lf) 219 Tryz.f219 .lf) 220 Tryz.f220 (.nd .lf 221 Tryz.f221 .lf)))) 222 Tryz.f222 (.nd (.nd (.nd (.nd (.nd .lf 223 Tryz.f223 .lf) 224 Tryz.f224 .lf) 226 Tryz.f226 (.nd .lf 227 Tryz.f227 .lf)) 228 Tryz.f228 (.nd (.nd (.nd .lf 229 Tryz.f229 .lf) 230 Tryz.f230 .lf) 231 Tryz.f231 (.nd .lf 232 Tryz.f232 .lf))) 233 Tryz.f233 (.nd (.nd (.nd (.nd .lf 234 Tryz.f234 .lf) 235 Tryz.f235 .lf) 236 Tryz.f236 (.nd .lf 237 Tryz.f237 .lf)) 238 Tryz.f238 (.nd (.nd (.nd .lf 239 Tryz.f239 .lf) 240 Tryz.f240 .lf) 241 Tryz.f241 (.nd .lf 242 Tryz.f242 .lf))))
theorem fnTab4_ok:fnTab4.All FnP:=⟨⟨⟨⟨⟨⟨trivial,⟨Tryz.func201,by kernel_rfl⟩,trivial⟩,⟨Tryz.func202,by kernel_rfl⟩,trivial⟩,⟨Tryz.func203,by kernel_rfl⟩,⟨⟨trivial,⟨Tryz.func204,by kernel_rfl⟩,trivial⟩,⟨Tryz.func205,by kernel_rfl⟩,trivial⟩⟩,⟨Tryz.func206,by kernel_rfl⟩,⟨⟨⟨trivial,⟨Tryz.func207,by kernel_rfl⟩,trivial⟩,⟨Tryz.func208,by kernel_rfl⟩,trivial⟩,⟨Tryz.func209,by kernel_rfl⟩,⟨trivial,⟨Tryz.func210,by kernel_rfl⟩,trivial⟩⟩⟩,⟨Tryz.func211,by kernel_rfl⟩,⟨⟨⟨⟨trivial,⟨Tryz.func212,by kernel_rfl⟩,trivial⟩,⟨Tryz.func213,by kernel_rfl⟩,trivial⟩,⟨Tryz.func214,by kernel_rfl⟩,⟨trivial,⟨Tryz.func215,by kernel_rfl⟩,trivial⟩⟩,⟨Tryz.func217,by kernel_rfl⟩,⟨⟨⟨trivial,⟨Tryz.func218,by kernel_rfl⟩,trivial⟩,⟨Tryz.func219,by kernel_rfl⟩,trivial⟩,⟨Tryz.func220,by kernel_rfl⟩,⟨trivial,⟨Tryz.func221,by kernel_rfl⟩,trivial⟩⟩⟩⟩,⟨Tryz.func222,by kernel_rfl⟩,⟨⟨⟨⟨⟨trivial,⟨Tryz.func223,by kernel_rfl⟩,trivial⟩,⟨Tryz.func224,by kernel_rfl⟩,trivial⟩,⟨Tryz.func226,by kernel_rfl⟩,⟨trivial,⟨Tryz.func227,by kernel_rfl⟩,trivial⟩⟩,⟨Tryz.func228,by kernel_rfl⟩,⟨⟨⟨trivial,⟨Tryz.func229,by kernel_rfl⟩,trivial⟩,⟨Tryz.func230,by kernel_rfl⟩,trivial⟩,⟨Tryz.func231,by kernel_rfl⟩,⟨trivial,⟨Tryz.func232,by kernel_rfl⟩,trivial⟩⟩⟩,⟨Tryz.func233,by kernel_rfl⟩,⟨⟨⟨⟨trivial,⟨Tryz.func234,by kernel_rfl⟩,trivial⟩,⟨Tryz.func235,by kernel_rfl⟩,trivial⟩,⟨Tryz.func236,by kernel_rfl⟩,⟨trivial,⟨Tryz.func237,by kernel_rfl⟩,trivial⟩⟩,⟨Tryz.func238,by kernel_rfl⟩,⟨⟨⟨trivial,⟨Tryz.func239,by kernel_rfl⟩,trivial⟩,⟨Tryz.func240,by kernel_rfl⟩,trivial⟩,⟨Tryz.func241,by kernel_rfl⟩,⟨trivial,⟨Tryz.func242,by kernel_rfl⟩,trivial⟩⟩⟩⟩⟩
noncomputable def fnTab5:BT Func:=.nd (.nd (.nd (.nd (.nd (.nd .lf 243 Tryz.f243 .lf) 244 Tryz.f244 .lf) 245 Tryz.f245 (.nd (.nd .lf 246 Tryz.f246 .lf) 247 Tryz.f247 .lf)) 248 Tryz.f248 (.nd (.nd (.nd .lf 249 Tryz.f249 .lf) 250 Tryz.f250 .lf) 251 Tryz.f251 (.nd .lf 252 Tryz.f252 .lf))) 253 Tryz.f253 (.nd (.nd (.nd (.nd .lf 254 Tryz.f254 .lf) 256 Tryz.f256 .lf) 257 Tryz.f257 (.nd .lf 258 Tryz.f258 .lf)) 259 Tryz.f259 (.nd (.nd (.nd .lf 260 Tryz.f260 .lf) 261 Tryz.f261 .lf) 262 Tryz.f262 (.nd .lf 263 Tryz.f263 .lf)))) 264 Tryz.f264 (.nd (.nd (.nd (.nd (.nd .lf 265 Tryz.f265 .lf) 266 Tryz.f266 .lf) 267 Tryz.f267 (.nd .lf 268 Tryz.f268 .lf)) 269 Tryz.f269 (.nd (.nd (.nd .lf 270 Tryz.f270 .lf) 271 Tryz.f271 .lf) 272 Tryz.f272 (.nd .lf 274 Tryz.f274 .lf))) 275 Tryz.f275 (.nd (.nd (.nd (.nd .lf 276 Tryz.f276 .lf) 277 Tryz.f277 .lf) 278 Tryz.f278 (.nd .lf 279 Tryz.f279 .lf)) 280 Tryz.f280 (.nd (.nd (.nd .lf 281 Tryz.f281 .lf) 282 Tryz.f282 .lf) 283 Tryz.f283 (.nd .lf 284 Tryz.f284 .lf))))
theorem fnTab5_ok:fnTab5.All FnP:=⟨⟨⟨⟨⟨⟨trivial,⟨Tryz.func243,by kernel_rfl⟩,trivial⟩,⟨Tryz.func244,by kernel_rfl⟩,trivial⟩,⟨Tryz.func245,by kernel_rfl⟩,⟨⟨trivial,⟨Tryz.func246,by kernel_rfl⟩,trivial⟩,⟨Tryz.func247,by kernel_rfl⟩,trivial⟩⟩,⟨Tryz.func248,by kernel_rfl⟩,⟨⟨⟨trivial,⟨Tryz.func249,by kernel_rfl⟩,trivial⟩,⟨Tryz.func250,by kernel_rfl⟩,trivial⟩,⟨Tryz.func251,by kernel_rfl⟩,⟨trivial,⟨Tryz.func252,by kernel_rfl⟩,trivial⟩⟩⟩,⟨Tryz.func253,by kernel_rfl⟩,⟨⟨⟨⟨trivial,⟨Tryz.func254,by kernel_rfl⟩,trivial⟩,⟨Tryz.func256,by kernel_rfl⟩,trivial⟩,⟨Tryz.func257,by kernel_rfl⟩,⟨trivial,⟨Tryz.func258,by kernel_rfl⟩,trivial⟩⟩,⟨Tryz.func259,by kernel_rfl⟩,⟨⟨⟨trivial,⟨Tryz.func260,by kernel_rfl⟩,trivial⟩,⟨Tryz.func261,by kernel_rfl⟩,trivial⟩,⟨Tryz.func262,by kernel_rfl⟩,⟨trivial,⟨Tryz.func263,by kernel_rfl⟩,trivial⟩⟩⟩⟩,⟨Tryz.func264,by kernel_rfl⟩,⟨⟨⟨⟨⟨trivial,⟨Tryz.func265,by kernel_rfl⟩,trivial⟩,⟨Tryz.func266,by kernel_rfl⟩,trivial⟩,⟨Tryz.func267,by kernel_rfl⟩,⟨trivial,⟨Tryz.func268,by kernel_rfl⟩,trivial⟩⟩,⟨Tryz.func269,by kernel_rfl⟩,⟨⟨⟨trivial,⟨Tryz.func270,by kernel_rfl⟩,trivial⟩,⟨Tryz.func271,by kernel_rfl⟩,trivial⟩,⟨Tryz.func272,by kernel_rfl⟩,⟨trivial,⟨Tryz.func274,by kernel_rfl⟩,trivial⟩⟩⟩,⟨Tryz.func275,by kernel_rfl⟩,⟨⟨⟨⟨trivial,⟨Tryz.func276,by kernel_rfl⟩,trivial⟩,⟨Tryz.func277,by kernel_rfl⟩,trivial⟩,⟨Tryz.func278,by kernel_rfl⟩,⟨trivial,⟨Tryz.func279,by kernel_rfl⟩,trivial⟩⟩,⟨Tryz.func280,by kernel_rfl⟩,⟨⟨⟨trivial,⟨Tryz.func281,by kernel_rfl⟩,trivial⟩,⟨Tryz.func282,by kernel_rfl⟩,trivial⟩,⟨Tryz.func283,by kernel_rfl⟩,⟨trivial,⟨Tryz.func284,by kernel_rfl⟩,trivial⟩⟩⟩⟩⟩
noncomputable def fnTab6:BT Func:=.nd (.nd (.nd .lf 285 Tryz.f285 .lf) 286 Tryz.f286 (.nd .lf 287 Tryz.f287 .lf)) 288 Tryz.f288 (.nd (.nd .lf 289 Tryz.f289 .lf) 290 Tryz.f290 (.nd .lf 291 Tryz.f291 .lf))
theorem fnTab6_ok:fnTab6.All FnP:=⟨⟨⟨trivial,⟨Tryz.func285,by kernel_rfl⟩,trivial⟩,⟨Tryz.func286,by kernel_rfl⟩,⟨trivial,⟨Tryz.func287,by kernel_rfl⟩,trivial⟩⟩,⟨Tryz.func288,by kernel_rfl⟩,⟨⟨trivial,⟨Tryz.func289,by kernel_rfl⟩,trivial⟩,⟨Tryz.func290,by kernel_rfl⟩,⟨trivial,⟨Tryz.func291,by kernel_rfl⟩,trivial⟩⟩⟩
noncomputable def fnTab (t:Nat):Option Func:=match Nat.blt t 63 with
 | true=>fnTab0.get t
 | false=>match Nat.blt t 113 with
 | true=>fnTab1.get t
 | false=>match Nat.blt t 159 with
 | true=>fnTab2.get t
 | false=>match Nat.blt t 201 with
 | true=>fnTab3.get t
 | false=>match Nat.blt t 243 with
 | true=>fnTab4.get t
 | false=>match Nat.blt t 285 with
 | true=>fnTab5.get t
 | false=>fnTab6.get t
theorem fnTab_ok (t:Nat) (v:Func) (h:fnTab t=some v):FnP t v:=by
 unfold fnTab at h
 split at h
 ·exact BT.get_ok fnTab0_ok h
 split at h
 ·exact BT.get_ok fnTab1_ok h
 split at h
 ·exact BT.get_ok fnTab2_ok h
 split at h
 ·exact BT.get_ok fnTab3_ok h
 split at h
 ·exact BT.get_ok fnTab4_ok h
 split at h
 ·exact BT.get_ok fnTab5_ok h
 exact BT.get_ok fnTab6_ok h
noncomputable def tysT:Tys Tryz.prog:=⟨tyTab,fun t l s b z h=>tyTab_ok t (l,s,b,z) h⟩
end Go.Proofs.YtdflnmfjpoodlaaGreatDoor
namespace Go.Proofs.YtdflnmfjpoodlaaGreatDoor
open Go.RowKit
section
variable (o:Oper) (E:Operand→Option AV) (L:HL) (N:Nat)
def eBld (t:TypeId):Option Res:=match Nat.beq t 182 with
 | true=>some ⟨[],[N],.own N 0,(N,[.tyOf N 182 2,.nils])::L⟩
 | false=>none
theorem eBld_ok {t:TypeId} {R:Res} (ho:o.op=.alloc t) (h:eBld L N t=some R):LO Tryz.prog o E (lkH L) N R.rd R.wr R.v (lkH R.L):=by
 unfold eBld at h
 split at h<;>first|(cases h;done)|skip
 rename_i ht
 have:=Nat.eq_of_beq_eq_true ht
 subst this
 injection h with h;subst h
 rw [lk_cons]
 exact LO.allocT ho ty182
def eUns (s d:TypeId) (x:Operand):Option Res:=match E x with
 | some (.own r 0)=>match lkH L r with
  | some (.tyOf r' t 2::_)=>match Nat.beq r' r && Nat.beq t 182 with
   | true=>match Nat.beq s 180 && Nat.beq d 279 with
    | true=>some ⟨[r],[],.own r 0,L⟩
    | false=>match Nat.beq s 279 && Nat.beq d 180 with
     | true=>some ⟨[r],[],.own r 0,L⟩
     | false=>none
   | false=>none
  | _=>none
 | _=>none
theorem bld_lies:liesAt Tryz.prog Tryz.prog.depth 182 (2 / Tryz.prog.cellsOf 182) 0 182 1=true:=by kernel_rfl
theorem eUns_ok {s d:TypeId} {x:Operand} {R:Res} (ho:o.op=.convert s d x) (h:eUns E L s d x=some R):LO Tryz.prog o E (lkH L) N R.rd R.wr R.v (lkH R.L):=by
 obtain ⟨i,z,hi,hsz,_⟩:=info_of ty182
 unfold eUns at h
 split at h<;>first|(cases h;done)|skip
 rename_i r hx
 split at h<;>first|(cases h;done)|skip
 rename_i r' t zs hl
 split at h<;>first|(cases h;done)|skip
 rename_i hg
 rw [Bool.and_eq_true] at hg
 have e1:=Nat.eq_of_beq_eq_true hg.1
 have e2:=Nat.eq_of_beq_eq_true hg.2
 subst e1 e2
 split at h
 ·rename_i hg2
  rw [Bool.and_eq_true] at hg2
  have e3:=Nat.eq_of_beq_eq_true hg2.1
  have e4:=Nat.eq_of_beq_eq_true hg2.2
  subst e3 e4
  injection h with h;subst h
  exact LO.toUnsafe ho hx hl (by decide) Tryz.underlying180 Tryz.underlying279 hi (by rw [hsz];decide)
 ·split at h<;>first|(cases h;done)|skip
  rename_i hg2
  rw [Bool.and_eq_true] at hg2
  have e3:=Nat.eq_of_beq_eq_true hg2.1
  have e4:=Nat.eq_of_beq_eq_true hg2.2
  subst e3 e4
  injection h with h;subst h
  have hb:=bld_lies
  generalize hc:2 / Tryz.prog.cellsOf 182=c at hb
  exact LO.fromUnsafe (n:=2) ho hx hl Tryz.underlying279 Tryz.underlying180 hi (by rw [hc];exact hb)
end
end Go.Proofs.YtdflnmfjpoodlaaGreatDoor
namespace Go.Proofs.YtdflnmfjpoodlaaGreatDoor
open Go.RowKit
def untype:AV→AV
 | .oslt r off len sz _=>.osl r off len sz
 | .oslc r off len sz _=>.osl r off len sz
 | .ownt r off _=>.own r off
 | a=>a
def unE (E:Operand→Option AV):Operand→Option AV:=fun x=>match E x with
 | some a=>some (untype a)
 | none=>none
theorem Rep.untype {X:Nat→Prop} {w:World} {φ:Em} {v:Value} {a:AV} (h:Rep X w φ v a):Rep X w φ v (untype a):=by
 cases h with
 | oslt r off len sz e b o cap hp hc hs he _=>exact .osl r off len sz b o cap hp hc hs
 | oslt0 A r off sz e=>exact .osl0 A r off sz
 | oslc r off len sz cap b o hp hc hs=>exact .osl r off len sz b o cap hp hc hs
 | oslc0 A r off sz=>exact .osl0 A r off sz
 | ownt r off e b o hp h0 he _=>exact .own r off b o hp h0
 | base v=>exact .base v
 | nils=>exact .nils
 | agg vs cs hl h1 h=>exact .agg vs cs hl h1 h
 | tup vs cs hl h=>exact .tup vs cs hl h
 | mref r b o h=>exact .mref r b o h
 | own r off b o h h0=>exact .own r off b o h h0
 | osl r off len sz b o cap h hc hs=>exact .osl r off len sz b o cap h hc hs
 | osl0 A r off sz=>exact .osl0 A r off sz
 | imm cs off b o us hb hx h1 hc h=>exact .imm cs off b o us hb hx h1 hc h
 | isl0 A cap=>exact .isl0 A cap
 | isl cs len cap b o us hb hx hcap h1 hc h=>exact .isl cs len cap b o us hb hx hcap h1 hc h
 | clo g vs cs hl h=>exact .clo g vs cs hl h
 | cloo g r off b o h h0=>exact .cloo g r off b o h h0
 | tyOf r t n b h h0=>exact .tyOf r t n b h h0
 | app f r off n n2 sz bf of cap b o cs cs' us hf hcap hs hr h1 hc h=>exact .app f r off n n2 sz bf of cap b o cs cs' us hf hcap hs hr h1 hc h
theorem LO.weaken {P:Program} {o:Oper} {E:Operand→Option AV} {H H':Hp} {f:Nat} {rd wr:List Nat} {v:AV} (h:LO P o (unE E) H f rd wr v H'):LO P o E H f rd wr v H':=by
 refine ⟨h.1,fun E' K hE hK X φ w ρ hR hst hf=>?_⟩
 refine h.2 (unE E') K (fun x hx=>by unfold unE;rw [hE x hx]) hK X φ w ρ (fun x a ha=>?_) hst hf
 unfold unE at ha
 split at ha
 ·rename_i b hb
  injection ha with ha
  subst ha
  exact (hR x b hb).untype
 ·cases ha
end Go.Proofs.YtdflnmfjpoodlaaGreatDoor
