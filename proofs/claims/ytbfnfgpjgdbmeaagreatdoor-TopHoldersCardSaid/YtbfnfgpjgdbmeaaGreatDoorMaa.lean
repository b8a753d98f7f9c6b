/-
  Values without addresses: what a value of the machine stands for, where memory that is never written again is read through; what is owned and may be written is named by numbers. One operation over values without addresses: what it reads, what it writes, what it leaves. Operations on memory over values without addresses: loads, stores, new blocks, addresses, slices, appends. The operations on memory, each by what it reads, writes and leaves. The operations on memory, second part: loads, stores, addresses, indices, slices, appends, conversions. The operations on memory, third part: indices, slices, lengths, appends, makes, conversions. Appends over values without addresses. A region over values without addresses: walked once, in the order of the text; sound in whatever order it is carried out. States over values without addresses, and regions on them. Code and calls over values without addresses.
-/
import Derived.Test.YtbfnfgpjgdbmeaaGreatDoorGt
import Derived.WalkKit
import Derived.WalkSpells
import Derived.WalkLawsBesides
import Derived.Lib.Hide
import Derived.Laws.CopyRow
import Derived.Laws.Cells
import Derived.Below
import Derived.LoopN
import Derived.Deep.AppendSrc
import Derived.RegionTactic
namespace Go.Proofs.YtbfnfgpjgdbmeaaGreatDoor
open Go.RowKit
inductive AV where
 | base (v:Value)
 | nils
 | agg (cs:List AV)
 | tup (vs:List AV)
 | own (r off:Nat)
 | osl (r off len sz:Nat)
 | imm (cs:List AV) (off:Nat)
 | isl (cs:List AV) (len:Nat)
 | mref (r:Nat)
 | mp (kd:Value→Prop) (m:Value→Option Value)
 | mpk (k:Nat) (ks:List Value)
 | clo (g:FuncId) (cs:List AV)
 | cloo (g:FuncId) (r off:Nat)
 | clom (g:FuncId) (r:Nat)
 | tyOf (r t n:Nat)
 | oslt (r off len sz e:Nat)
 | oslc (r off len sz cap:Nat)
 | ownt (r off e:Nat)
 | app (f r off n n2 sz:Nat) (cs:List AV)
abbrev Hp:=Nat→Option (List AV)
abbrev Em:=Nat→Option (Nat × Nat)
def AV.one:AV→Bool
 | .base v=>v.oneCell'
 | .agg _|.tup _|.mp _ _|.mpk _ _=>false
 | _=>true
def AV.cells:AV→List AV
 | .agg cs=>cs
 | a=>[a]
def AV.okb:AV→Bool
 | .agg _=>true
 | a=>a.one
theorem AV.okb_or {a:AV} (h:a.okb=true):a.one=true∨∃ cs,a=.agg cs:=by
 cases a<;>first|exact .inl h|exact .inr ⟨_,rfl⟩
def bsz (w:World) (b:Nat):Nat:=match w.heap[b]? with
 | some (.cells c _ _)=>c.size + 1
 | _=>0
theorem bsz_lt {w:World} {b:Nat} (h:0 < bsz w b):b < w.heap.size:=by
 rcases Nat.lt_or_ge b w.heap.size with h'|h'
 ·exact h'
 ·unfold bsz at h;rw [Array.getElem?_eq_none h'] at h;simp at h
def bel (w:World) (b:Nat):Nat:=match w.heap[b]? with
 | some (.cells _ e _)=>e + 1
 | _=>0
def bst (w:World) (b:Nat):Nat × Nat:=(bsz w b,bel w b)
theorem bst_sz {w w':World} {b:Nat} (h:bst w' b=bst w b):bsz w' b=bsz w b:=congrArg Prod.fst h
theorem bst_el {w w':World} {b:Nat} (h:bst w' b=bst w b):bel w' b=bel w b:=congrArg Prod.snd h
theorem bel_lt {w:World} {b t:Nat} (h:bel w b=t + 1):b < w.heap.size:=by
 rcases Nat.lt_or_ge b w.heap.size with h'|h'
 ·exact h'
 ·unfold bel at h;rw [Array.getElem?_eq_none h'] at h;simp at h
structure MOk (kd:Value→Prop) (m:Value→Option Value) (es:Array MapEntry):Prop where
 keys:∀ (i:Nat) e,es[i]?=some e→kd e.key
 dist:∀ (i j:Nat) e e',es[i]?=some e→es[j]?=some e'→e.key=e'.key→i=j
 val:∀ x u,kd x→(m x=some u↔∃ (i:Nat) (e:MapEntry),es[i]?=some e∧e.key=x∧e.val=u)
inductive Rep (X:Nat→Prop) (w:World):Em→Value→AV→Prop
 | base {φ:Em} (v:Value):Rep X w φ v (.base v)
 | nils {φ:Em}:Rep X w φ (.slice none 0 0) .nils
 | agg {φ:Em} (vs:Array Value) (cs:List AV) (hl:vs.size=cs.length) (h1:∀ (i:Nat) c,cs[i]?=some c→c.one=true) (h:∀ (i:Nat) v c,vs[i]?=some v→cs[i]?=some c→Rep X w φ v c):Rep X w φ (.agg vs) (.agg cs)
 | tup {φ:Em} (vs:Array Value) (cs:List AV) (hl:vs.size=cs.length) (h:∀ (i:Nat) v c,vs[i]?=some v→cs[i]?=some c→Rep X w φ v c):Rep X w φ (.tuple vs) (.tup cs)
 | mref {φ:Em} (r b o:Nat) (h:φ r=some (b,o)):Rep X w φ (.map (some b)) (.mref r)
 | own {φ:Em} (r off b o:Nat) (h:φ r=some (b,o)) (h0:0 < bsz w b):Rep X w φ (.pointer (some ⟨b,o + off,none⟩)) (.own r off)
 | osl {φ:Em} (r off len sz b o cap:Nat) (h:φ r=some (b,o)) (hc:len≤cap) (hs:o + off + cap * sz < bsz w b):Rep X w φ (.slice (some ⟨b,o + off,none⟩) len cap) (.osl r off len sz)
 | osl0 {φ:Em} (A:Option Addr) (r off sz:Nat):Rep X w φ (.slice A 0 0) (.osl r off 0 sz)
 | imm {φ:Em} (cs:List AV) (off b o:Nat) (us:Nat→Value) (hb:b < w.heap.size) (hx:¬ X b) (h1:∀ (i:Nat) c,cs[i]?=some c→c.one=true)
  (hc:∀ (i:Nat) c,cs[i]?=some c→w.cell? ⟨b,o + i,none⟩=some (us i)) (h:∀ (i:Nat) c,cs[i]?=some c→Rep X w (fun _=>none) (us i) c):Rep X w φ (.pointer (some ⟨b,o + off,none⟩)) (.imm cs off)
 | isl0 {φ:Em} (A:Option Addr) (cap:Nat):Rep X w φ (.slice A 0 cap) (.isl [] 0)
 | isl {φ:Em} (cs:List AV) (len cap b o:Nat) (us:Nat→Value) (hb:b < w.heap.size) (hx:¬ X b) (hcap:len≤cap) (h1:∀ (i:Nat) c,cs[i]?=some c→c.one=true)
  (hc:∀ (i:Nat) c,cs[i]?=some c→w.cell? ⟨b,o + i,none⟩=some (us i)) (h:∀ (i:Nat) c,cs[i]?=some c→Rep X w (fun _=>none) (us i) c):Rep X w φ (.slice (some ⟨b,o,none⟩) len cap) (.isl cs len)
 | clo {φ:Em} (g:FuncId) (vs:Array Value) (cs:List AV) (hl:vs.size=cs.length) (h:∀ (i:Nat) v c,vs[i]?=some v→cs[i]?=some c→Rep X w (fun _=>none) v c):Rep X w φ (.func (.func g) #[] vs) (.clo g cs)
 | cloo {φ:Em} (g:FuncId) (r off b o:Nat) (h:φ r=some (b,o)) (h0:0 < bsz w b):Rep X w φ (.func (.func g) #[] #[.pointer (some ⟨b,o + off,none⟩)]) (.cloo g r off)
 | clom {φ:Em} (g:FuncId) (r bm b o:Nat) (hb:bm < w.heap.size) (hx:¬ X bm) (hc:w.cell? ⟨bm,0,none⟩=some (.map (some b))) (h:φ r=some (b,o)):Rep X w φ (.func (.func g) #[] #[.pointer (some ⟨bm,0,none⟩)]) (.clom g r)
 | oslt {φ:Em} (r off len sz e b o cap:Nat) (h:φ r=some (b,o)) (hc:len≤cap) (hs:o + off + cap * sz < bsz w b) (he:bel w b=e + 1) (hz0:o + off=0):Rep X w φ (.slice (some ⟨b,o + off,none⟩) len cap) (.oslt r off len sz e)
 | oslt0 {φ:Em} (A:Option Addr) (r off sz e:Nat):Rep X w φ (.slice A 0 0) (.oslt r off 0 sz e)
 | oslc {φ:Em} (r off len sz cap b o:Nat) (h:φ r=some (b,o)) (hc:len≤cap) (hs:o + off + cap * sz < bsz w b):Rep X w φ (.slice (some ⟨b,o + off,none⟩) len cap) (.oslc r off len sz cap)
 | oslc0 {φ:Em} (A:Option Addr) (r off sz:Nat):Rep X w φ (.slice A 0 0) (.oslc r off 0 sz 0)
 | ownt {φ:Em} (r off e b o:Nat) (h:φ r=some (b,o)) (h0:0 < bsz w b) (he:bel w b=e + 1) (hz0:o + off=0):Rep X w φ (.pointer (some ⟨b,o + off,none⟩)) (.ownt r off e)
 | tyOf {φ:Em} (r t n b:Nat) (h:φ r=some (b,0)) (h0:bst w b=(n + 1,t + 1)):Rep X w φ (.pointer none) (.tyOf r t n)
 | app {φ:Em} (f r off n n2 sz bf of cap b o:Nat) (cs cs':List AV) (us:Nat→Value) (hf:φ f=some (bf,of)) (hcap:n2≤cap) (hs:of + cap * sz < bsz w bf) (hr:φ r=some (b,o)) (h1:∀ (i:Nat) c,cs'[i]?=some c→c.one=true)
  (hc:(b=bf∧o + off=of)∨(cs'=cs∧b < w.heap.size∧¬ X b∧∀ (i:Nat) c,cs'[i]?=some c→w.cell? ⟨b,o + off + i,none⟩=some (us i))) (h:∀ (i:Nat) c,cs'[i]?=some c→Rep X w (fun _=>none) (us i) c):Rep X w φ (.slice (some ⟨bf,of,none⟩) n2 cap) (.app f r off n n2 sz cs)
def Glob (X:Nat→Prop) (w:World):Prop:=(∀ g vs,gRaw g=some vs→g < w.heap.size∧¬ X g∧∀ (i:Nat) v,vs[i]?=some v→w.cell? ⟨g,i,none⟩=some v)∧∀ g,gOpn g=true→g < w.heap.size∧¬ X g∧∃ n,w.cell? ⟨g,0,none⟩=some (.int .i64 n)
theorem Glob.keep {X X':Nat→Prop} {w w':World} (h:Glob X w) (hsz:w.heap.size≤w'.heap.size) (hs:∀ b,b < w.heap.size→¬ X b→w'.heap[b]?=w.heap[b]?) (hx:∀ b,b < w.heap.size→X' b→X b):Glob X' w':=by
 refine ⟨fun g vs hg=>?_,fun g hg=>?_⟩
 ·obtain ⟨h1,h2,h3⟩:=h.1 g vs hg
  refine ⟨by omega,fun hX=>h2 (hx g h1 hX),fun i v hv=>?_⟩
  rw [← h3 i v hv]
  exact World.cell?_of_block (hs g h1 h2)
 ·obtain ⟨h1,h2,n,h3⟩:=h.2 g hg
  refine ⟨by omega,fun hX=>h2 (hx g h1 hX),n,?_⟩
  rw [← h3]
  exact World.cell?_of_block (hs g h1 h2)
theorem Glob.sub {X X':Nat→Prop} {w:World} (h:Glob X w) (hx:∀ b,X' b→X b):Glob X' w:=h.keep (Nat.le_refl _) (fun _ _ _=>rfl) fun b _=>hx b
def mlC (kd:Value→Prop) (ks vs:List Value):List AV:=[.mp kd (fun _=>none),.base (.tuple ks.toArray),.base (.tuple vs.toArray)]
structure LOk (kd:Value→Prop) (ks vs:List Value) (es:Array MapEntry) (clock:Nat):Prop where
 clk:clock=ks.length
 size:es.size=ks.length
 len:vs.length=ks.length
 ent:∀ (i:Nat) e,es[i]?=some e→ks[i]?=some e.key∧vs[i]?=some e.val∧e.born=i∧kd e.key
 nd:ks.Nodup
open Classical in
noncomputable def mpkF (ks:List Value):Value→Option Value:=fun v=>if v∈ks then some (.bool true) else none
def AV.pure1:AV→Bool
 | .own _ _|.cloo _ _ _|.clom _ _|.tyOf _ _ _|.oslt _ _ _ _ _|.oslc _ _ _ _ _|.ownt _ _ _|.osl _ _ _ _|.agg _|.tup _|.mref _|.mp _ _|.mpk _ _|.app _ _ _ _ _ _ _=>false
 | _=>true
def AV.pure2:AV→Bool
 | .agg cs=>cs.all AV.pure1
 | a=>a.pure1
def AV.pureA:AV→Bool
 | .agg cs=>cs.all AV.pure1
 | _=>false
theorem AV.pureA_one {a:AV} (h:a.pureA=true):a.one=false:=by
 cases a<;>first|(cases h;done)|rfl
theorem AV.pureA_2 {a:AV} (h:a.pureA=true):a.pure2=true:=by
 cases a<;>first|(cases h;done)|exact h
def maC (kd:Value→Prop) (ks:List Value) (as_:List AV):List AV:=.mp kd (fun _=>some (.bool true))::.base (.tuple ks.toArray)::as_
structure MOkA (X:Nat→Prop) (φ:Em) (w:World) (kd:Value→Prop) (ks:List Value) (as_:List AV) (es:Array MapEntry):Prop where
 size:es.size=ks.length
 len:as_.length=ks.length
 ent:∀ (i:Nat) e,es[i]?=some e→ks[i]?=some e.key∧kd e.key∧∃ a,as_[i]?=some a∧Rep X w φ e.val a
 pu:as_.all AV.pureA=true
 nd:ks.Nodup
theorem MOkA.keep {X X':Nat→Prop} {φ φ':Em} {w w':World} {kd:Value→Prop} {ks:List Value} {as_:List AV} {es:Array MapEntry} (h:MOkA X φ w kd ks as_ es) (hr:∀ v a,a∈as_→Rep X w φ v a→Rep X' w' φ' v a):MOkA X' φ' w' kd ks as_ es :=
 ⟨h.size,h.len,fun i e hi=>by
  obtain ⟨h1,h2,a,h3,h4⟩:=h.ent i e hi
  exact ⟨h1,h2,a,h3,hr _ _ (List.mem_of_getElem? h3) h4⟩,h.pu,h.nd⟩
inductive Blk (X:Nat→Prop) (φ:Em) (w:World) (b o:Nat) (cs:List AV):Prop
 | cells (c:Array Value) (e:TypeId) (hh:w.heap[b]?=some (.cells c e (0,0))) (h:∀ (j:Nat) a,cs[j]?=some a→a.one=true∧∃ u,c[o + j]?=some u∧Rep X w φ u a)
 | map (es:Array MapEntry) (clock:Nat) (kd:Value→Prop) (m:Value→Option Value) (hc:cs=[.mp kd m]) (hh:w.heap[b]?=some (.map es clock)) (h:MOk kd m es)
 | mapl (es:Array MapEntry) (clock:Nat) (kd:Value→Prop) (ks vs:List Value) (hc:cs=mlC kd ks vs) (hh:w.heap[b]?=some (.map es clock)) (h:LOk kd ks vs es clock)
 | mapk (es:Array MapEntry) (clock:Nat) (k:Nat) (ks:List Value) (hc:cs=[.mpk k ks]) (hh:w.heap[b]?=some (.map es clock)) (h:MOk (kdX k) (mpkF ks) es)
 | mapa (es:Array MapEntry) (clock:Nat) (kd:Value→Prop) (ks:List Value) (as_:List AV) (hc:cs=maC kd ks as_) (hh:w.heap[b]?=some (.map es clock)) (h:MOkA X φ w kd ks as_ es)
theorem Blk.lt {X:Nat→Prop} {φ:Em} {w:World} {b o:Nat} {cs:List AV} (h:Blk X φ w b o cs):b < w.heap.size:=by
 rcases Nat.lt_or_ge b w.heap.size with h'|h'
 ·exact h'
 ·cases h with
  | cells c e hh _=>rw [Array.getElem?_eq_none h'] at hh;cases hh
  | map es cl kd m _ hh _=>rw [Array.getElem?_eq_none h'] at hh;cases hh
  | mapl es cl kd ks vs _ hh _=>rw [Array.getElem?_eq_none h'] at hh;cases hh
  | mapk es cl k ks _ hh _=>rw [Array.getElem?_eq_none h'] at hh;cases hh
  | mapa es cl kd ks as_ _ hh _=>rw [Array.getElem?_eq_none h'] at hh;cases hh
theorem Blk.keep {X X':Nat→Prop} {φ φ':Em} {w w':World} {b b' o:Nat} {cs:List AV} (h:Blk X φ w b o cs) (hs:w'.heap[b']?=w.heap[b]?) (hr:∀ v a,Rep X w φ v a→Rep X' w' φ' v a):Blk X' φ' w' b' o cs:=by
 cases h with
 | cells c e hh h=>exact .cells c e (hs.trans hh) fun j a hj=>⟨(h j a hj).1,(h j a hj).2.elim fun u hu=>⟨u,hu.1,hr _ _ hu.2⟩⟩
 | map es cl kd m hc hh h=>exact .map es cl kd m hc (hs.trans hh) h
 | mapl es cl kd ks vs hc hh h=>exact .mapl es cl kd ks vs hc (hs.trans hh) h
 | mapk es cl k ks hc hh h=>exact .mapk es cl k ks hc (hs.trans hh) h
 | mapa es cl kd ks as_ hc hh h=>exact .mapa es cl kd ks as_ hc (hs.trans hh) (h.keep fun v a _=>hr v a)
theorem Blk.keepP {X X':Nat→Prop} {φ φ':Em} {w w':World} {b b' o:Nat} {cs:List AV} (h:Blk X φ w b o cs) (hs:w'.heap[b']?=w.heap[b]?) (hr:∀ v a,a∈cs→Rep X w φ v a→Rep X' w' φ' v a):Blk X' φ' w' b' o cs:=by
 cases h with
 | cells c e hh h=>exact .cells c e (hs.trans hh) fun j a hj=>⟨(h j a hj).1,(h j a hj).2.elim fun u hu=>⟨u,hu.1,hr _ _ (List.mem_of_getElem? hj) hu.2⟩⟩
 | map es cl kd m hc hh h=>exact .map es cl kd m hc (hs.trans hh) h
 | mapl es cl kd ks vs hc hh h=>exact .mapl es cl kd ks vs hc (hs.trans hh) h
 | mapk es cl k ks hc hh h=>exact .mapk es cl k ks hc (hs.trans hh) h
 | mapa es cl kd ks as_ hc hh h=>exact .mapa es cl kd ks as_ hc (hs.trans hh) (h.keep fun v a ha=>hr v a (by rw [hc];exact .tail _ (.tail _ ha)))
theorem Blk.cells_one {X:Nat→Prop} {φ:Em} {w:World} {b o j:Nat} {cs:List AV} {a:AV} (h:Blk X φ w b o cs) (hj:cs[j]?=some a) (ha:a.one=true):∃ c e,w.heap[b]?=some (.cells c e (0,0))∧∀ (j:Nat) a,cs[j]?=some a→a.one=true∧∃ u,c[o + j]?=some u∧Rep X w φ u a:=by
 cases h with
 | cells c e hh h=>exact ⟨c,e,hh,h⟩
 | map es cl kd m hc hh h =>
  subst hc
  cases j with
  | zero=>simp at hj;subst hj;cases ha
  | succ j=>simp at hj
 | mapl es cl kd ks vs hc hh h =>
  subst hc
  match j with
  | 0=>simp [mlC] at hj;subst hj;cases ha
  | 1=>simp [mlC] at hj;subst hj;cases ha
  | 2=>simp [mlC] at hj;subst hj;cases ha
  | j + 3=>simp [mlC] at hj
 | mapk es cl k ks hc hh h =>
  subst hc
  cases j with
  | zero=>simp at hj;subst hj;cases ha
  | succ j=>simp at hj
 | mapa es cl kd ks as_ hc hh h =>
  subst hc
  match j with
  | 0=>simp [maC] at hj;subst hj;cases ha
  | 1=>simp [maC] at hj;subst hj;cases ha
  | j + 2 =>
   simp [maC] at hj
   rw [AV.pureA_one (List.all_eq_true.1 h.pu a (List.mem_of_getElem? hj))] at ha
   cases ha
theorem Blk.cells_of {X:Nat→Prop} {φ:Em} {w:World} {b o:Nat} {cs:List AV} (h:Blk X φ w b o cs) (h0:0 < bsz w b):∃ c e,w.heap[b]?=some (.cells c e (0,0))∧∀ (j:Nat) a,cs[j]?=some a→a.one=true∧∃ u,c[o + j]?=some u∧Rep X w φ u a:=by
 cases h with
 | cells c e hh h=>exact ⟨c,e,hh,h⟩
 | map es cl kd m hc hh h=>unfold bsz at h0;rw [hh] at h0;simp at h0
 | mapl es cl kd ks vs hc hh h=>unfold bsz at h0;rw [hh] at h0;simp at h0
 | mapk es cl k ks hc hh h=>unfold bsz at h0;rw [hh] at h0;simp at h0
 | mapa es cl kd ks as_ hc hh h=>unfold bsz at h0;rw [hh] at h0;simp at h0
structure St (X:Nat→Prop) (φ:Em) (H:Hp) (w:World):Prop where
 ow:(∀ r cs,H r=some cs→(cs=[]∧φ r=none)∨∃ b o,φ r=some (b,o)∧X b∧Blk X φ w b o cs)
 inj:(∀ r r' cs cs' b o o',H r=some cs→H r'=some cs'→φ r=some (b,o)→φ r'=some (b,o')→r=r')
 gl:Glob X w
section
variable {X X':Nat→Prop} {w w':World} {φ φ':Em} {v:Value} {a:AV}
theorem Rep.keep (h:Rep X w φ v a) (hsz:w.heap.size≤w'.heap.size) (hs:∀ b,b < w.heap.size→¬ X b→w'.heap[b]?=w.heap[b]?) (hz:∀ b,b < w.heap.size→bst w' b=bst w b) (hx:∀ b,b < w.heap.size→X' b→X b)
 (hφ:∀ r x,φ r=some x→φ' r=some x):Rep X' w' φ' v a:=by
 have hcell:∀ (b i:Nat) (u:Value),¬ X b→w.cell? ⟨b,i,none⟩=some u→w'.cell? ⟨b,i,none⟩=some u:=fun b i u hb hc=>by
  have hlt:=World.block_lt_of_cell? w _ hc
  rw [← hc]
  exact World.cell?_of_block (hs b hlt hb)
 induction h generalizing φ' with
 | base v=>exact .base v
 | nils=>exact .nils
 | agg vs cs hl h1 _ ih=>exact .agg vs cs hl h1 fun i v c hv hc=>ih i v c hv hc hφ
 | tup vs cs hl _ ih=>exact .tup vs cs hl fun i v c hv hc=>ih i v c hv hc hφ
 | mref r b o h=>exact .mref r b o (hφ _ _ h)
 | own r off b o h h0=>exact .own r off b o (hφ _ _ h) (by rw [bst_sz (hz b (bsz_lt h0))];exact h0)
 | oslt r off len sz e b o cap h hc hsl he hz0=>exact .oslt r off len sz e b o cap (hφ _ _ h) hc (by rw [bst_sz (hz b (bel_lt he))];exact hsl) (by rw [bst_el (hz b (bel_lt he))];exact he) hz0
 | oslt0 A r off sz e=>exact .oslt0 A r off sz e
 | oslc r off len sz cap b o h hc hsl=>exact .oslc r off len sz cap b o (hφ _ _ h) hc (by rw [bst_sz (hz b (bsz_lt (by omega)))];exact hsl)
 | oslc0 A r off sz=>exact .oslc0 A r off sz
 | ownt r off e b o h h0 he hz0=>exact .ownt r off e b o (hφ _ _ h) (by rw [bst_sz (hz b (bel_lt he))];exact h0) (by rw [bst_el (hz b (bel_lt he))];exact he) hz0
 | tyOf r t n b h h0=>exact .tyOf r t n b (hφ _ _ h) (by rw [hz b (bel_lt (congrArg Prod.snd h0))];exact h0)
 | cloo g r off b o h h0=>exact .cloo g r off b o (hφ _ _ h) (by rw [bst_sz (hz b (bsz_lt h0))];exact h0)
 | clom g r bm b o hb hxb hc h=>exact .clom g r bm b o (by omega) (fun hX=>hxb (hx bm hb hX)) (hcell bm 0 _ hxb hc) (hφ _ _ h)
 | osl r off len sz b o cap h hc hsl =>
  exact .osl r off len sz b o cap (hφ _ _ h) hc (by rw [bst_sz (hz b (bsz_lt (by omega)))];exact hsl)
 | osl0 A r off sz=>exact .osl0 A r off sz
 | imm cs off b o us hb hxb h1 hc _ ih =>
  exact .imm cs off b o us (Nat.lt_of_lt_of_le hb hsz) (fun h=>hxb (hx b hb h)) h1 (fun i c hi=>hcell _ _ _ hxb (hc i c hi)) fun i c hi=>ih i c hi (fun _ _ h=>h)
 | app f r off n n2 sz bf of cap b o cs cs' us hf hcap hs hr h1 hc _ ih=>exact .app f r off n n2 sz bf of cap b o cs cs' us (hφ _ _ hf) hcap (by rw [bst_sz (hz bf (bsz_lt (by omega)))];exact hs) (hφ _ _ hr) h1 (hc.imp id fun ⟨e,hb,hx',hcc⟩=>⟨e,Nat.lt_of_lt_of_le hb hsz,fun h=>hx' (hx b hb h),fun i c hi=>hcell _ _ _ hx' (hcc i c hi)⟩) fun i c hi=>ih i c hi (fun _ _ h=>h)
 | clo g vs cs hl _ ih=>exact .clo g vs cs hl fun i v c hv hc=>ih i v c hv hc (fun _ _ h=>h)
 | isl0 A cap=>exact .isl0 A cap
 | isl cs len cap b o us hb hxb hcap h1 hc _ ih =>
  exact .isl cs len cap b o us (Nat.lt_of_lt_of_le hb hsz) (fun h=>hxb (hx b hb h)) hcap h1 (fun i c hi=>hcell _ _ _ hxb (hc i c hi)) fun i c hi=>ih i c hi (fun _ _ h=>h)
theorem Rep.oneCell (h:Rep X w φ v a) (h1:a.one=true):v.oneCell'=true:=by
 cases h<;>first|exact h1|rfl|(simp [AV.one] at h1)
theorem Rep.cells (h:Rep X w φ v a) (h1:a.one=true∨∃ cs,a=.agg cs) :
 v.cells.size=a.cells.length∧∀ (i:Nat) c,a.cells[i]?=some c→c.one=true∧∃ u,v.cells[i]?=some u∧Rep X w φ u c:=by
 rcases h1 with h1|⟨cs,rfl⟩
 ·have hv:v.cells=#[v]:=by
   have:=h.oneCell h1
   cases v<;>first|rfl|(simp [Value.oneCell'] at this)
  have ha:a.cells=[a]:=by cases a<;>first|rfl|(simp [AV.one] at h1)
  rw [hv,ha]
  refine ⟨rfl,fun i c hi=>?_⟩
  cases i with
  | zero=>simp at hi;subst hi;exact ⟨h1,v,by simp,h⟩
  | succ i=>simp at hi
 ·cases h with
  | agg vs _ hl h1 hh =>
   refine ⟨hl,fun i c hi=>⟨h1 i c hi,?_⟩⟩
   have hlt:i < cs.length:=(List.getElem?_eq_some_iff.1 hi).1
   have hv:vs[i]?=some vs[i]:=by simp [hl,hlt]
   exact ⟨vs[i],hv,hh i _ c hv hi⟩
theorem bsz_of {b:Nat} {c:Array Value} {e:TypeId} {f:Nat × Nat} (h:w.heap[b]?=some (.cells c e f)):bsz w b=c.size + 1:=by unfold bsz;rw [h]
theorem cell_of {b i:Nat} {c:Array Value} {e:TypeId} {f:Nat × Nat} (h:w.heap[b]?=some (.cells c e f)):w.cell? ⟨b,i,none⟩=c[i]?:=cell_of_row w b i c e f h
structure Nxt (H:Hp) (f:Nat→Prop) (X:Nat→Prop) (φ:Em) (w:World) (H':Hp) (X':Nat→Prop) (φ':Em) (w':World):Prop where
 os:w'.os=w.os
 tape:w'.tape=w.tape
 output:w'.output=w.output
 size:w.heap.size≤w'.heap.size
 same:∀ b,b < w.heap.size→(∀ r cs o,H r=some cs→φ r≠some (b,o))→w'.heap[b]?=w.heap[b]?
 bs:∀ b,b < w.heap.size→bst w' b=bst w b
 xs:∀ b,b < w.heap.size→X' b→X b
 xk:∀ b,b < w.heap.size→X b→X' b∨∃ r cs o,H r=some cs∧φ r=some (b,o)
 ph:∀ r,¬ f r→φ' r=φ r
 lv:∀ r cs b o,H' r=some cs→φ' r=some (b,o)→w.heap.size≤b∨∃ r0 cs0 o0,H r0=some cs0∧φ r0=some (b,o0)
theorem Nxt.refl (H:Hp) (f X φ) (w:World):Nxt H f X φ w H X φ w :=
 ⟨rfl,rfl,rfl,Nat.le_refl _,fun _ _ _=>rfl,fun _ _=>rfl,fun _ _ h=>h,fun _ _ h=>.inl h,fun _ _=>rfl,fun r cs _ o h1 h2=>.inr ⟨r,cs,o,h1,h2⟩⟩
theorem Nxt.keep {H H':Hp} {f:Nat→Prop} (h:Nxt H f X φ w H' X' φ' w') (hst:St X φ H w) (hf:∀ r,f r→φ r=none) (hr:Rep X w φ v a):Rep X' w' φ' v a:=by
 refine hr.keep h.size (fun b hb hx=>h.same b hb fun r cs o hH hp=>?_) h.bs h.xs fun r x hx=>?_
 ·obtain ⟨_,h1⟩|⟨b',o',h1,h2,_⟩:=hst.1 r cs hH
  ·rw [h1] at hp;cases hp
  rw [h1] at hp
  injection hp with hp
  injection hp with h3 h4
  subst h3
  exact hx h2
 ·rw [h.ph r (fun hfr=>by rw [hf r hfr] at hx;cases hx)]
  exact hx
end
def up {α:Type} (F:Nat→Option α) (k:Nat) (v:Option α):Nat→Option α:=fun x=>match Nat.beq k x with
 | true=>v
 | false=>F x
theorem up_at {α:Type} (F:Nat→Option α) (k:Nat) (v:Option α):up F k v k=v:=by unfold up;rw [Nat.beq_refl]
theorem up_ne {α:Type} {F:Nat→Option α} {k:Nat} {v:Option α} {x:Nat} (h:x≠k):up F k v x=F x:=by
 unfold up
 cases hb:Nat.beq k x with
 | true=>exact absurd (Nat.eq_of_beq_eq_true hb).symm h
 | false=>rfl
def mt {α:Type}:Nat→Option α:=fun _=>none
abbrev Tp:=Nat→Option AV
def absC:Value→AV
 | .slice none 0 0=>.nils
 | v=>.base v
theorem rep_absC {X:Nat→Prop} {w:World} {φ:Em} (v:Value):Rep X w φ v (absC v):=by
 unfold absC
 split
 ·exact .nils
 ·exact .base _
def ev (T:Tp):Operand→Option AV
 | .tmp t=>T t
 | .const (.slice none 0 0)=>some .nils
 | .const v=>some (.base v)
 | .func g=>some (.base (.func (.func g) #[] #[]))
 | .global g=>some (.base (.pointer (some ⟨g,0,none⟩)))
theorem ev_const (T:Tp) (v:Value):ev T (.const v)=some (absC v):=by
 unfold absC
 split
 ·rfl
 ·rename_i h
  unfold ev
  split
  ·rename_i e;cases e
  ·rename_i e;injection e with e;exact absurd e (h ·)
  ·rename_i e;injection e with e;subst e;rfl
  ·rename_i e;cases e
  ·rename_i e;cases e
def OpW (P:Program) (o:Oper) (r:Operand→Value) (w:World) (K:Value→World→Prop):Prop :=
 match (execOp r o).run P w with
 | .ok (.value v) w'=>K v w'
 | .ok .skip w'=>K undef w'
 | .ok (.enter f args) w'=>Calls P f args w' fun e w''=>∃ v,e=.returned v∧K v w''
 | _=>False
theorem OpW.wp {P:Program} {Q:Exit→Act→World→Prop} {o:Oper} {a:Act} {w:World} {K:Act→World→Prop} (h:OpW P o a.eval w fun v w'=>K (a.put o.dst v) w'):o.wp P a w K Q:=by
 unfold OpW at h
 unfold Oper.wp
 generalize (execOp a.eval o).run P w=r at *
 cases r with
 | ok n w' =>
  cases n<;>simp only [Oper.upon] at h ⊢<;>first
   | exact h
   | exact h.elim
   | exact Calls.mono h fun e w'' ⟨v,he,hk⟩=>by subst he;exact hk
 | halt x w'=>exact h.elim
def ovr (K:Hp) (wr:List Nat) (H':Hp):Hp:=fun r=>if r∈wr then H' r else K r
theorem ovr_nil (K H':Hp):ovr K [] H'=K:=by funext r;simp [ovr]
theorem ovr_one (K:Hp) (H:Hp) (f:Nat) (c:Option (List AV)):ovr K [f] (up H f c)=up K f c:=by
 funext r
 by_cases h:r=f
 ·subst h;simp [ovr,up_at]
 ·simp [ovr,h,up_ne h]
theorem ovr_two (K:Hp) (H:Hp) (f g:Nat) (c d:Option (List AV)):ovr K [g,f] (up (up H f c) g d)=up (up K f c) g d:=by
 funext r
 by_cases h:r=g
 ·subst h;simp [ovr,up_at]
 ·by_cases h':r=f
  ·subst h';simp [ovr,up_ne h,up_at]
  ·simp [ovr,h,h',up_ne h,up_ne h']
def SOp (P:Program) (o:Oper) (E:Operand→Option AV) (f:Nat) (K:Hp) (v:AV) (K':Hp):Prop :=
 ∀ (X:Nat→Prop) (φ:Em) (w:World) (ρ:Operand→Value),(∀ x a,E x=some a→Rep X w φ (ρ x) a)→St X φ K w→φ f=none →
  OpW P o ρ w fun x w'=>∃ X' φ',Nxt K (·=f) X φ w K' X' φ' w'∧St X' φ' K' w'∧Rep X' w' φ' x v
def LO (P:Program) (o:Oper) (E:Operand→Option AV) (H:Hp) (f:Nat) (rd wr:List Nat) (v:AV) (H':Hp):Prop :=
 (∀ r,r ∉ wr→H' r=H r)∧∀ E' K,(∀ x,x∈o.op.operands→E' x=E x)→(∀ r,r∈rd∨r∈wr→K r=H r)→SOp P o E' f K v (ovr K wr H')
section
variable {P:Program} {o:Oper} {E:Operand→Option AV} {H:Hp} {f:Nat} {v a:AV}
theorem LO.pure (h:∀ (X:Nat→Prop) (φ:Em) (w:World) (ρ:Operand→Value),(∀ x,x∈o.op.operands→∀ a,E x=some a→Rep X w φ (ρ x) a)→∃ x,(execOp ρ o).run P w=.ok (.value x) w∧Rep X w φ x v) :
 LO P o E H f [] [] v H:=by
 refine ⟨fun _ _=>rfl,fun E' K hE hK X φ w ρ hR hst hf=>?_⟩
 rw [ovr_nil]
 obtain ⟨x,hx,hr⟩:=h X φ w ρ (fun x hx a ha=>hR x a ((hE x hx).trans ha))
 unfold OpW
 rw [hx]
 exact ⟨X,φ,Nxt.refl _ _ _ _ _,hst,hr⟩
theorem LO.read (r:Nat) (h:∀ (X:Nat→Prop) (φ:Em) (w:World) (ρ:Operand→Value) (K:Hp),(∀ x,x∈o.op.operands→∀ a,E x=some a→Rep X w φ (ρ x) a)→K r=H r→St X φ K w→∃ x,(execOp ρ o).run P w=.ok (.value x) w∧Rep X w φ x v) :
 LO P o E H f [r] [] v H:=by
 refine ⟨fun _ _=>rfl,fun E' K hE hK X φ w ρ hR hst hf=>?_⟩
 rw [ovr_nil]
 obtain ⟨x,hx,hr⟩:=h X φ w ρ K (fun x hx a ha=>hR x a ((hE x hx).trans ha)) (hK r (.inl (by simp))) hst
 unfold OpW
 rw [hx]
 exact ⟨X,φ,Nxt.refl _ _ _ _ _,hst,hr⟩
theorem Rep.base_eq {X:Nat→Prop} {w:World} {φ:Em} {x v:Value} (h:Rep X w φ x (.base v)):x=v:=by cases h;rfl
theorem LO.move {x:Operand} (ho:o.op=.move x) (hx:E x=some a):LO P o E H f [] [] a H :=
 .pure fun X φ w ρ hR=>⟨ρ x,by simp [execOp,ho,Pure.pure],hR x (by simp [ho,Op.operands]) a hx⟩
theorem LO.assign {x:Operand} (ho:o.op=.assign x) (hx:E x=some a):LO P o E H f [] [] a H :=
 .pure fun X φ w ρ hR=>⟨ρ x,by simp [execOp,ho,Pure.pure],hR x (by simp [ho,Op.operands]) a hx⟩
theorem LO.pick_t {c x y:Operand} {b:Bool} (ho:o.op=.pick c x y) (hc:E c=some (.base (.bool b))) (hb:b=true) (hx:E x=some a):LO P o E H f [] [] a H :=
 .pure fun X φ w ρ hR=>⟨ρ x,by
  have h1:=(hR c (by simp [ho,Op.operands]) _ hc).base_eq
  subst hb
  simp [execOp,ho,h1,asBool,Sem.run_pure],hR x (by simp [ho,Op.operands]) a hx⟩
theorem LO.pick_f {c x y:Operand} {b:Bool} (ho:o.op=.pick c x y) (hc:E c=some (.base (.bool b))) (hb:b=false) (hy:E y=some a):LO P o E H f [] [] a H :=
 .pure fun X φ w ρ hR=>⟨ρ y,by
  have h1:=(hR c (by simp [ho,Op.operands]) _ hc).base_eq
  subst hb
  simp [execOp,ho,h1,asBool,Sem.run_pure],hR y (by simp [ho,Op.operands]) a hy⟩
theorem LO.bin {op:BinOp} {t ty:TypeId} {x y:Operand} {u u' r:Value} (ho:o.op=.binOp op t x y ty) (hx:E x=some (.base u)) (hy:E y=some (.base u'))
 (hr:∀ w,(do eqGuard op t x y u u';Go.binOp op t u u':Sem Value).run P w=.ok r w):LO P o E H f [] [] (.base r) H :=
 .pure fun X φ w ρ hR=>⟨r,by
  have h1:=(hR x (by simp [ho,Op.operands]) _ hx).base_eq
  have h2:=(hR y (by simp [ho,Op.operands]) _ hy).base_eq
  simp only [execOp,ho,h1,h2,Sem.run_bind,hr w,Result.andThen_ok,Sem.run_pure],.base _⟩
section
variable {t ty:TypeId} {x y:Operand} {k k':IntKind} {m n:Int}
theorem LO.add (ho:o.op=.binOp .add t x y ty) (hx:E x=some (.base (.int k m))) (hy:E y=some (.base (.int k n))):LO P o E H f [] [] (.base (.int k (k.wrap (m + n)))) H :=
 .bin ho hx hy fun w=>by simp [eqGuard,Go.binOp,Op.intArith,Sem.run_pure]
theorem LO.sub (ho:o.op=.binOp .sub t x y ty) (hx:E x=some (.base (.int k m))) (hy:E y=some (.base (.int k n))):LO P o E H f [] [] (.base (.int k (k.wrap (m - n)))) H :=
 .bin ho hx hy fun w=>by simp [eqGuard,Go.binOp,Op.intArith,Sem.run_pure]
theorem LO.mul (ho:o.op=.binOp .mul t x y ty) (hx:E x=some (.base (.int k m))) (hy:E y=some (.base (.int k n))):LO P o E H f [] [] (.base (.int k (k.wrap (m * n)))) H :=
 .bin ho hx hy fun w=>by simp [eqGuard,Go.binOp,Op.intArith,Sem.run_pure]
theorem LO.add_in (ho:o.op=.binOp .add t x y ty) (hx:E x=some (.base (.int k m))) (hy:E y=some (.base (.int k n))) (hw:k.wrap (m + n)=m + n):LO P o E H f [] [] (.base (.int k (m + n))) H:=by
 have:=LO.add (P:=P) (H:=H) (f:=f) ho hx hy
 rwa [hw] at this
theorem LO.sub_in (ho:o.op=.binOp .sub t x y ty) (hx:E x=some (.base (.int k m))) (hy:E y=some (.base (.int k n))) (hw:k.wrap (m - n)=m - n):LO P o E H f [] [] (.base (.int k (m - n))) H:=by
 have:=LO.sub (P:=P) (H:=H) (f:=f) ho hx hy
 rwa [hw] at this
theorem LO.mul_in (ho:o.op=.binOp .mul t x y ty) (hx:E x=some (.base (.int k m))) (hy:E y=some (.base (.int k n))) (hw:k.wrap (m * n)=m * n):LO P o E H f [] [] (.base (.int k (m * n))) H:=by
 have:=LO.mul (P:=P) (H:=H) (f:=f) ho hx hy
 rwa [hw] at this
theorem LO.quo (ho:o.op=.binOp .quo t x y ty) (hx:E x=some (.base (.int k m))) (hy:E y=some (.base (.int k n))) (hn:n≠0):LO P o E H f [] [] (.base (.int k (k.wrap (m.tdiv n)))) H :=
 .bin ho hx hy fun w=>by simp [eqGuard,Go.binOp,Op.intDiv,Sem.run_pure,hn]
theorem LO.quo_in (ho:o.op=.binOp .quo t x y ty) (hx:E x=some (.base (.int k m))) (hy:E y=some (.base (.int k n))) (hm:0≤m) (hn:1≤n) (hw:k.wrap (m / n)=m / n):LO P o E H f [] [] (.base (.int k (m / n))) H:=by
 have:=LO.quo (P:=P) (H:=H) (f:=f) ho hx hy (by omega)
 rwa [Int.tdiv_eq_ediv_of_nonneg hm,hw] at this
theorem LO.rem (ho:o.op=.binOp .rem t x y ty) (hx:E x=some (.base (.int k m))) (hy:E y=some (.base (.int k n))) (hn:n≠0):LO P o E H f [] [] (.base (.int k (m.tmod n))) H :=
 .bin ho hx hy fun w=>by simp [eqGuard,Go.binOp,Op.intDiv,Sem.run_pure,hn]
theorem LO.rem_in (ho:o.op=.binOp .rem t x y ty) (hx:E x=some (.base (.int k m))) (hy:E y=some (.base (.int k n))) (hm:0≤m) (hn:n≠0):LO P o E H f [] [] (.base (.int k (m % n))) H:=by
 have:=LO.rem (P:=P) (H:=H) (f:=f) ho hx hy hn
 rwa [Int.tmod_eq_emod_of_nonneg hm] at this
theorem LO.eql (ho:o.op=.binOp .eql t x y ty) (hx:E x=some (.base (.int k m))) (hy:E y=some (.base (.int k n))):LO P o E H f [] [] (.base (.bool (m == n))) H :=
 .bin ho hx hy fun w=>by simp [eqGuard,Go.binOp,Op.intCmp,Sem.run_pure]
theorem LO.neq (ho:o.op=.binOp .neq t x y ty) (hx:E x=some (.base (.int k m))) (hy:E y=some (.base (.int k n))):LO P o E H f [] [] (.base (.bool (m != n))) H :=
 .bin ho hx hy fun w=>by simp [eqGuard,Go.binOp,Op.intCmp,Sem.run_pure]
theorem LO.lss (ho:o.op=.binOp .lss t x y ty) (hx:E x=some (.base (.int k m))) (hy:E y=some (.base (.int k n))):LO P o E H f [] [] (.base (.bool (decide (m < n)))) H :=
 .bin ho hx hy fun w=>by simp [eqGuard,Go.binOp,Op.intCmp,Sem.run_pure]
theorem LO.leq (ho:o.op=.binOp .leq t x y ty) (hx:E x=some (.base (.int k m))) (hy:E y=some (.base (.int k n))):LO P o E H f [] [] (.base (.bool (decide (m≤n)))) H :=
 .bin ho hx hy fun w=>by simp [eqGuard,Go.binOp,Op.intCmp,Sem.run_pure]
theorem LO.gtr (ho:o.op=.binOp .gtr t x y ty) (hx:E x=some (.base (.int k m))) (hy:E y=some (.base (.int k n))):LO P o E H f [] [] (.base (.bool (decide (n < m)))) H :=
 .bin ho hx hy fun w=>by simp [eqGuard,Go.binOp,Op.intCmp,Sem.run_pure]
theorem LO.geq (ho:o.op=.binOp .geq t x y ty) (hx:E x=some (.base (.int k m))) (hy:E y=some (.base (.int k n))):LO P o E H f [] [] (.base (.bool (decide (n≤m)))) H :=
 .bin ho hx hy fun w=>by simp [eqGuard,Go.binOp,Op.intCmp,Sem.run_pure]
def bitV (op:BinOp) (k:IntKind) (m n:Int):Int:=match op with
 | .and=>k.wrap (BitVec.ofInt k.bits m &&& BitVec.ofInt k.bits n).toNat
 | .or=>k.wrap (BitVec.ofInt k.bits m ||| BitVec.ofInt k.bits n).toNat
 | .xor=>k.wrap (BitVec.ofInt k.bits m ^^^ BitVec.ofInt k.bits n).toNat
 | _=>k.wrap (BitVec.ofInt k.bits m &&& ~~~BitVec.ofInt k.bits n).toNat
theorem LO.and (ho:o.op=.binOp .and t x y ty) (hx:E x=some (.base (.int k m))) (hy:E y=some (.base (.int k n))):LO P o E H f [] [] (.base (.int k (bitV .and k m n))) H :=
 .bin ho hx hy fun w=>by simp [eqGuard,Go.binOp,Op.intBits,bitV,Sem.run_pure]
theorem LO.or (ho:o.op=.binOp .or t x y ty) (hx:E x=some (.base (.int k m))) (hy:E y=some (.base (.int k n))):LO P o E H f [] [] (.base (.int k (bitV .or k m n))) H :=
 .bin ho hx hy fun w=>by simp [eqGuard,Go.binOp,Op.intBits,bitV,Sem.run_pure]
theorem LO.xor (ho:o.op=.binOp .xor t x y ty) (hx:E x=some (.base (.int k m))) (hy:E y=some (.base (.int k n))):LO P o E H f [] [] (.base (.int k (bitV .xor k m n))) H :=
 .bin ho hx hy fun w=>by simp [eqGuard,Go.binOp,Op.intBits,bitV,Sem.run_pure]
theorem LO.andNot (ho:o.op=.binOp .andNot t x y ty) (hx:E x=some (.base (.int k m))) (hy:E y=some (.base (.int k n))):LO P o E H f [] [] (.base (.int k (bitV .andNot k m n))) H :=
 .bin ho hx hy fun w=>by simp [eqGuard,Go.binOp,Op.intBits,bitV,Sem.run_pure]
theorem LO.shl (ho:o.op=.binOp .shl t x y ty) (hx:E x=some (.base (.int k m))) (hy:E y=some (.base (.int k' n))) (hn:0≤n):LO P o E H f [] [] (.base (.int k (k.wrap (m * 2 ^ (min n.toNat k.bits))))) H :=
 .bin ho hx hy fun w=>by simp [eqGuard,Go.binOp,Op.shift,Sem.run_pure,show ¬ n < 0 by omega]
theorem LO.shr (ho:o.op=.binOp .shr t x y ty) (hx:E x=some (.base (.int k m))) (hy:E y=some (.base (.int k' n))) (hn:0≤n):LO P o E H f [] [] (.base (.int k (m.fdiv (2 ^ (min n.toNat k.bits))))) H :=
 .bin ho hx hy fun w=>by simp [eqGuard,Go.binOp,Op.shift,Sem.run_pure,show ¬ n < 0 by omega]
theorem LO.neg (ho:o.op=.unOp .neg t x) (hx:E x=some (.base (.int k m))):LO P o E H f [] [] (.base (.int k (k.wrap (0 - m)))) H :=
 .pure fun X φ w ρ hR=>⟨_,by
  have h1:=(hR x (by simp [ho,Op.operands]) _ hx).base_eq
  simp [execOp,ho,h1,Op.unary,Op.intArith,Sem.run_pure],.base _⟩
theorem LO.not {b:Bool} (ho:o.op=.unOp .not t x) (hx:E x=some (.base (.bool b))):LO P o E H f [] [] (.base (.bool (!b))) H :=
 .pure fun X φ w ρ hR=>⟨_,by
  have h1:=(hR x (by simp [ho,Op.operands]) _ hx).base_eq
  simp [execOp,ho,h1,Op.unary,Sem.run_pure],.base _⟩
end
theorem LO.extract {x:Operand} {i:Nat} {vs:List AV} (ho:o.op=.extract x i) (hx:E x=some (.tup vs)) (hi:vs[i]?=some a):LO P o E H f [] [] a H :=
 .pure fun X φ w ρ hR=>by
  have h1:=hR x (by simp [ho,Op.operands]) _ hx
  generalize hq:ρ x=u at h1
  cases h1 with
  | tup us _ hl h =>
   have hlt:i < vs.length:=(List.getElem?_eq_some_iff.1 hi).1
   have hu:us[i]?=some us[i]:=by simp [hl,hlt]
   exact ⟨us[i],by simp [execOp,ho,hq,Instr.extract,hu,Sem.run_pure],h i _ a hu hi⟩
end
inductive Lay where
 | int (k:IntKind)|bool|str
 | ptr (e:Nat)|sl (e:Nat)|arr (n e:Nat)|st (fs:List (Nat × Nat × Nat))|map (k e:Nat)|other
def Lay.agg:Lay→Bool
 | .arr _ _|.st _=>true
 | _=>false
def layOf (P:Program):TypeDesc→Lay
 | .int k=>.int k
 | .bool=>.bool
 | .string=>.str
 | .pointer e=>.ptr e
 | .slice e=>.sl e
 | .array n e=>.arr n e
 | .struct fs=>.st (fs.toList.map fun f=>(f.offset,((P.info? f.type).map (·.size)).getD 0,f.type))
 | .map k e=>.map k e
 | _=>.other
def sizesOK (P:Program):TypeDesc→Bool
 | .struct fs=>fs.toList.all fun f=>(P.info? f.type).isSome
 | _=>true
def tyB (P:Program) (t:TypeId):Option (Lay × Nat × Nat × List AV) :=
 match P.underlying t,P.info? t with
 | some d,some inf=>match inf.zero with
  | some z=>if (z.cells.toList.map absC).length=inf.size∧z.cells.toList.all (·.oneCell')=true∧sizesOK P d=true then some (layOf P d,inf.size,inf.bytes,z.cells.toList.map absC) else none
  | none=>none
 | _,_=>none
def TyOK (P:Program) (t:TypeId) (l:Lay) (size bytes:Nat) (zero:List AV):Prop:=tyB P t=some (l,size,bytes,zero)
theorem TyOK.spec {P:Program} {t:TypeId} {l:Lay} {size bytes:Nat} {zero:List AV} (h:TyOK P t l size bytes zero) :
 ∃ d inf z,P.underlying t=some d∧layOf P d=l∧P.info? t=some inf∧inf.size=size∧inf.bytes=bytes∧inf.zero=some z∧z.cells.toList.map absC=zero∧zero.length=size∧z.cells.toList.all (·.oneCell')=true∧sizesOK P d=true:=by
 unfold TyOK tyB at h
 split at h
 ·rename_i d inf hd hi
  split at h
  ·rename_i z hz
   split at h
   ·rename_i hc
    injection h with h
    simp only [Prod.mk.injEq] at h
    obtain ⟨h1,h2,h3,h4⟩:=h
    exact ⟨d,inf,z,hd,h1,hi,h2,h3,hz,h4,by rw [← h4,← h2];exact hc.1,hc.2.1,hc.2.2⟩
   ·cases h
  ·cases h
 ·cases h
def Tk (cs:List AV) (k n:Nat) (vs:List AV):Prop:=vs.length=n∧∀ (j:Nat) c,vs[j]?=some c→cs[k + j]?=some c
theorem Tk.nil {cs:List AV}:Tk cs 0 0 []:=⟨rfl,fun j c h=>by simp at h⟩
theorem Tk.cons {cs vs:List AV} {n:Nat} {c:AV} (h:Tk cs 0 n vs):Tk (c::cs) 0 (n + 1) (c::vs) :=
 ⟨by simp [h.1],fun j d hj=>by
  cases j with
  | zero=>simpa using hj
  | succ j=>have:=h.2 j d (by simpa using hj);simpa [Nat.zero_add] using this⟩
theorem Tk.skip {cs vs:List AV} {k n:Nat} {c:AV} (h:Tk cs k n vs):Tk (c::cs) (k + 1) n vs :=
 ⟨h.1,fun j d hj=>by
  have:=h.2 j d hj
  rw [show k + 1 + j=(k + j) + 1 from by omega]
  simpa using this⟩
def tkC:List AV→Nat→Nat→Option (List AV)
 | _,0,0=>some []
 | c::cs,0,n + 1=>match tkC cs 0 n with
  | some l=>some (c::l)
  | none=>none
 | _::cs,k + 1,n=>tkC cs k n
 | [],_,_=>none
theorem Tk.lit:∀ {cs vs:List AV} {k n:Nat},tkC cs k n=some vs→Tk cs k n vs:=by
 intro cs
 induction cs with
 | nil =>
  intro vs k n h
  cases k<;>cases n<;>simp [tkC] at h
  subst h;exact .nil
 | cons c cs ih =>
  intro vs k n h
  cases k with
  | zero =>
   cases n with
   | zero=>simp [tkC] at h;subst h;exact .nil
   | succ n =>
    simp only [tkC] at h
    split at h
    ·rename_i l hl
     injection h with h
     subst h
     exact .cons (ih hl)
    ·cases h
  | succ k=>simp only [tkC] at h;exact .skip (ih h)
theorem Tk.all (cs:List AV):Tk cs 0 cs.length cs:=⟨rfl,fun j c hj=>by rwa [Nat.zero_add]⟩
def Sp (cs:List AV) (k:Nat) (ns cs':List AV):Prop:=k + ns.length≤cs.length∧cs'.length=cs.length ∧
 ∀ (j:Nat) c,cs'[j]?=some c→(k≤j∧ns[j - k]?=some c)∨((j < k∨k + ns.length≤j)∧cs[j]?=some c)
theorem Sp.nil {cs:List AV}:Sp cs 0 [] cs:=⟨by simp,rfl,fun j c h=>.inr ⟨.inr (by simp),h⟩⟩
theorem Sp.cons {cs ns cs':List AV} {c n:AV} (h:Sp cs 0 ns cs'):Sp (c::cs) 0 (n::ns) (n::cs') :=
 ⟨by have:=h.1;simp at this ⊢;omega,by simp [h.2.1],fun j d hj=>by
  cases j with
  | zero=>exact .inl ⟨Nat.le_refl _,by simpa using hj⟩
  | succ j =>
   rcases h.2.2 j d (by simpa using hj) with ⟨h1,h2⟩|⟨h1,h2⟩
   ·exact .inl ⟨Nat.zero_le _,by simpa using h2⟩
   ·exact .inr ⟨.inr (by simp;omega),by simpa using h2⟩⟩
theorem Sp.skip {cs ns cs':List AV} {k:Nat} {c:AV} (h:Sp cs k ns cs'):Sp (c::cs) (k + 1) ns (c::cs') :=
 ⟨by have:=h.1;simp;omega,by simp [h.2.1],fun j d hj=>by
  cases j with
  | zero=>exact .inr ⟨.inl (by omega),by simpa using hj⟩
  | succ j =>
   rcases h.2.2 j d (by simpa using hj) with ⟨h1,h2⟩|⟨h1,h2⟩
   ·exact .inl ⟨by omega,by rw [show j + 1 - (k + 1)=j - k from by omega];exact h2⟩
   ·exact .inr ⟨by omega,by simpa using h2⟩⟩
def spC:List AV→Nat→List AV→Option (List AV)
 | cs,0,[]=>some cs
 | _::cs,0,n::ns=>match spC cs 0 ns with
  | some l=>some (n::l)
  | none=>none
 | c::cs,k + 1,ns=>match spC cs k ns with
  | some l=>some (c::l)
  | none=>none
 | [],_,_=>none
theorem Sp.lit:∀ {cs ns cs':List AV} {k:Nat},spC cs k ns=some cs'→Sp cs k ns cs':=by
 intro cs
 induction cs with
 | nil =>
  intro ns cs' k h
  cases k<;>cases ns<;>simp [spC] at h
  subst h;exact .nil
 | cons c cs ih =>
  intro ns cs' k h
  cases k with
  | zero =>
   cases ns with
   | nil=>simp [spC] at h;subst h;exact .nil
   | cons a ns =>
    simp only [spC] at h
    split at h
    ·rename_i l hl
     injection h with h
     subst h
     exact .cons (ih hl)
    ·cases h
  | succ k =>
   simp only [spC] at h
   split at h
   ·rename_i l hl
    injection h with h
    subst h
    exact .skip (ih hl)
   ·cases h
theorem Sp.set (cs:List AV) (k:Nat) (a:AV) (h:k < cs.length):Sp cs k [a] (cs.set k a) :=
 ⟨by simp;omega,by simp,fun j c hj=>by
  rw [List.getElem?_set] at hj
  split at hj
  ·rename_i e
   subst e
   first|rw [if_pos h] at hj|skip
   exact .inl ⟨Nat.le_refl _,by simpa using hj⟩
  ·exact .inr ⟨by simp;omega,hj⟩⟩
theorem Sp.of (cs:List AV) (k:Nat) (ns:List AV) (h:k + ns.length≤cs.length):Sp cs k ns (cs.take k++ns++cs.drop (k + ns.length)) :=
 ⟨h,by simp;omega,fun j c hj=>by
  simp only [List.getElem?_append,List.length_append,List.length_take,List.getElem?_take,List.getElem?_drop] at hj
  have hm:min k cs.length=k:=by omega
  rw [hm] at hj
  by_cases h1:j < k
  ·simp [h1,show j < k + ns.length by omega] at hj
   exact .inr ⟨.inl h1,hj⟩
  ·by_cases h2:j < k + ns.length
   ·simp [h1,h2] at hj
    exact .inl ⟨by omega,hj⟩
   ·simp [h2] at hj
    rw [show k + ns.length + (j - (k + ns.length))=j from by omega] at hj
    exact .inr ⟨.inr (by omega),hj⟩⟩
section
variable {P:Program} {t:TypeId} {l:Lay} {size bytes:Nat} {zero:List AV}
theorem TyOK.isAgg (h:TyOK P t l size bytes zero) (w:World):(Go.isAgg t).run P w=.ok l.agg w:=by
 obtain ⟨d,inf,z,h1,h2,_⟩:=h.spec
 subst h2
 unfold Go.isAgg
 rw [Sem.run_bind,run_underlying h1]
 cases d<;>rfl
theorem TyOK.sizeOf (h:TyOK P t l size bytes zero) (w:World):(Go.sizeOf t).run P w=.ok size w:=by
 obtain ⟨d,inf,z,h1,h2,h3,h4,_⟩:=h.spec
 simp [Go.sizeOf,typeInfo,h3,h4]
theorem TyOK.info (h:TyOK P t l size bytes zero) (w:World):∃ inf,(Go.typeInfo t).run P w=.ok inf w∧inf.bytes=bytes:=by
 obtain ⟨d,inf,z,h1,h2,h3,h4,h5,_⟩:=h.spec
 exact ⟨inf,by simp [typeInfo,h3],h5⟩
theorem TyOK.zeroV (h:TyOK P t l size bytes zero):∃ z:Value,(∀ w,(Go.zeroValue t).run P w=.ok z w)∧z.cells.size=size∧z.cells.toList.map absC=zero∧zero.length=size∧(∀ u∈z.cells.toList,u.oneCell'=true):=by
 obtain ⟨d,inf,z,h1,h2,h3,h4,h5,h6,h7,h8,h9,_⟩:=h.spec
 refine ⟨z,fun w=>by simp [Go.zeroValue,typeInfo,h3,h6],?_,h7,h8,fun u hu=>List.all_eq_true.1 h9 u hu⟩
 rw [← h8,← h7]
 simp
theorem absC_one {u:Value} (h:u.oneCell'=true):(absC u).one=true:=by
 unfold absC
 split
 ·rfl
 ·exact h
end
section
variable {X:Nat→Prop} {w:World} {φ:Em}
theorem run_cells {P:Program} {b i:Nat} (cl:List AV) (h:∀ (j:Nat) c,cl[j]?=some c→∃ u,w.cell? ⟨b,i + j,none⟩=some u∧Rep X w φ u c) :
 ∃ us:Array Value,us.size=cl.length∧(loadCells ⟨b,i,none⟩ cl.length).run P w=.ok us w∧∀ (j:Nat) c,cl[j]?=some c→∃ u,us[j]?=some u∧w.cell? ⟨b,i + j,none⟩=some u∧Rep X w φ u c:=by
 refine ⟨((List.range cl.length).map fun j=>(w.cell? ⟨b,i + j,none⟩).getD undef).toArray,by simp,?_,fun j c hj=>?_⟩
 ·rw [run_loadCells w ⟨b,i,none⟩ cl.length (fun j=>(w.cell? ⟨b,i + j,none⟩).getD undef) (fun j hj=>?_)]
  obtain ⟨u,hu,_⟩:=h j cl[j] (List.getElem?_eq_getElem hj)
  rw [Addr.add_lit,hu]
  rfl
 ·obtain ⟨u,hu,hr⟩:=h j c hj
  have hlt:j < cl.length:=(List.getElem?_eq_some_iff.1 hj).1
  exact ⟨u,by simp [hlt,hu],hu,hr⟩
theorem St.cells {K:Hp} {r b o:Nat} {cs:List AV} (hst:St X φ K w) (hr:K r=some cs) (hp:φ r=some (b,o)) (h0:0 < bsz w b):∃ c e,X b∧w.heap[b]?=some (.cells c e (0,0))∧∀ (j:Nat) a,cs[j]?=some a→a.one=true∧∃ u,c[o + j]?=some u∧Rep X w φ u a:=by
 obtain ⟨_,h⟩|⟨b',o',h1,h2,h3⟩:=hst.1 r cs hr
 ·rw [h] at hp;cases hp
 ·rw [h1] at hp
  injection hp with hp
  injection hp with e1 e2
  subst e1 e2
  obtain ⟨c,e,h4,h5⟩:=h3.cells_of h0
  exact ⟨c,e,h2,h4,h5⟩
theorem St.blk {K:Hp} {r b o:Nat} {cs:List AV} (hst:St X φ K w) (hr:K r=some cs) (hp:φ r=some (b,o)):X b∧Blk X φ w b o cs:=by
 obtain ⟨_,h⟩|⟨b',o',h1,h2,h3⟩:=hst.1 r cs hr
 ·rw [h] at hp;cases hp
 ·rw [h1] at hp
  injection hp with hp
  injection hp with e1 e2
  subst e1 e2
  exact ⟨h2,h3⟩
theorem bsz_same {w w':World} {b:Nat} (h:w'.heap[b]?=w.heap[b]?):bst w' b=bst w b:=by unfold bst bsz bel;rw [h]
theorem St.putB {K:Hp} {r b o:Nat} {cs cs':List AV} {w':World} {f:Nat} (hst:St X φ K w) (hr:K r=some cs) (hp:φ r=some (b,o))
 (hos:w'.os=w.os) (htp:w'.tape=w.tape) (hout:w'.output=w.output) (hsz:w'.heap.size=w.heap.size) (hoth:∀ b',b'≠b→w'.heap[b']?=w.heap[b']?) (hbz:bst w' b=bst w b)
 (hB:(∀ v a,Rep X w φ v a→Rep X w' φ v a)→Blk X φ w' b o cs') :
 Nxt K (·=f) X φ w (up K r (some cs')) X φ w'∧St X φ (up K r (some cs')) w'∧∀ v a,Rep X w φ v a→Rep X w' φ v a:=by
 obtain ⟨hX,hB0⟩:=hst.blk hr hp
 have hbs:∀ b',bst w' b'=bst w b':=by
  intro b'
  by_cases h:b'=b
  ·subst h;exact hbz
  ·exact bsz_same (hoth b' h)
 have hkeep:∀ v a,Rep X w φ v a→Rep X w' φ v a:=fun v a h =>
  h.keep (Nat.le_of_eq hsz.symm) (fun b' _ hx=>hoth b' (fun e=>hx (e ▸ hX))) (fun b' _=>hbs b') (fun _ _ h=>h) (fun _ _ h=>h)
 have hlv:∀ r' cs1,up K r (some cs') r'=some cs1→∃ cs0,K r'=some cs0:=by
  intro r' cs1 h
  by_cases hrr:r'=r
  ·subst hrr;exact ⟨cs,hr⟩
  ·rw [up_ne hrr] at h;exact ⟨cs1,h⟩
 refine ⟨⟨hos,htp,hout,Nat.le_of_eq hsz.symm,fun b' _ hn=>hoth b' (fun e=>hn r cs o hr (by rw [hp,e])),fun b' _=>hbs b',fun _ _ h=>h,fun _ _ h=>.inl h,fun _ _=>rfl,fun r' cs1 b' o' h1 h2=>?_⟩,⟨fun r' cs1 h1=>?_,fun r1 r2 c1 c2 b' o1 o2 h1 h2 h3 h4=>?_,hst.gl.keep (Nat.le_of_eq hsz.symm) (fun b' _ hx=>hoth b' (fun e=>hx (e ▸ hX))) (fun _ _ h=>h)⟩,hkeep⟩
 ·obtain ⟨cs0,h0⟩:=hlv r' cs1 h1
  exact .inr ⟨r',cs0,o',h0,h2⟩
 ·by_cases hrr:r'=r
  ·subst hrr
   rw [up_at] at h1
   injection h1 with h1
   subst h1
   exact .inr ⟨b,o,hp,hX,hB hkeep⟩
  ·rw [up_ne hrr] at h1
   obtain hn|⟨b',o',h2,h3,h4⟩:=hst.1 r' cs1 h1
   ·exact .inl hn
   ·have hne:b'≠b:=fun e=>hrr (hst.2 r' r cs1 cs b' o' o h1 hr h2 (by rw [hp,e]))
    exact .inr ⟨b',o',h2,h3,h4.keep (hoth b' hne) hkeep⟩
 ·obtain ⟨d1,g1⟩:=hlv r1 c1 h1
  obtain ⟨d2,g2⟩:=hlv r2 c2 h2
  exact hst.2 r1 r2 d1 d2 b' o1 o2 g1 g2 h3 h4
theorem St.put {K:Hp} {r b o:Nat} {cs cs':List AV} {w':World} {c c':Array Value} {e:TypeId} {f:Nat} (hst:St X φ K w) (hr:K r=some cs) (hp:φ r=some (b,o)) (hh:w.heap[b]?=some (.cells c e (0,0)))
 (hos:w'.os=w.os) (htp:w'.tape=w.tape) (hout:w'.output=w.output) (hsz:w'.heap.size=w.heap.size) (hoth:∀ b',b'≠b→w'.heap[b']?=w.heap[b']?) (hb:w'.heap[b]?=some (.cells c' e (0,0))) (hc:c'.size=c.size)
 (hcs:∀ (j:Nat) a,cs'[j]?=some a→a.one=true∧∃ u,c'[o + j]?=some u∧Rep X w φ u a) :
 Nxt K (·=f) X φ w (up K r (some cs')) X φ w'∧St X φ (up K r (some cs')) w'∧∀ v a,Rep X w φ v a→Rep X w' φ v a :=
 hst.putB hr hp hos htp hout hsz hoth (by unfold bst;rw [bsz_of hb,bsz_of hh,hc];unfold bel;rw [hb,hh]) fun hk=>.cells c' e hb fun j a hj=>⟨(hcs j a hj).1,(hcs j a hj).2.elim fun u hu=>⟨u,hu.1,hk _ _ hu.2⟩⟩
theorem St.freshB {K:Hp} {f:Nat} {cs:List AV} {w':World} {ob:Obj} (hst:St X φ K w) (hf:φ f=none)
 (hos:w'.os=w.os) (htp:w'.tape=w.tape) (hout:w'.output=w.output) (hheap:w'.heap=w.heap.push ob)
 (hB:(∀ v a,Rep X w φ v a→Rep (fun b=>X b∨b=w.heap.size) w' (fun r=>if r=f then some (w.heap.size,0) else φ r) v a)→Blk (fun b=>X b∨b=w.heap.size) (fun r=>if r=f then some (w.heap.size,0) else φ r) w' w.heap.size 0 cs) :
 let X':Nat→Prop:=fun b=>X b∨b=w.heap.size
 let φ':Em:=fun r=>if r=f then some (w.heap.size,0) else φ r
 Nxt K (·=f) X φ w (up K f (some cs)) X' φ' w'∧St X' φ' (up K f (some cs)) w'∧(∀ v a,Rep X w φ v a→Rep X' w' φ' v a)∧φ' f=some (w.heap.size,0):=by
 intro X' φ'
 have hsz:w'.heap.size=w.heap.size + 1:=by rw [hheap];simp
 have hold:∀ b,b < w.heap.size→w'.heap[b]?=w.heap[b]?:=fun b hb=>by rw [hheap,Array.getElem?_push,if_neg (by omega)]
 have hbs:∀ b,b < w.heap.size→bst w' b=bst w b:=fun b hb=>bsz_same (hold b hb)
 have hφ:∀ r x,φ r=some x→φ' r=some x:=fun r x h=>by
  show (if r=f then _ else _)=_
  rw [if_neg (fun e=>by rw [e,hf] at h;cases h)]
  exact h
 have hφf:φ' f=some (w.heap.size,0):=if_pos rfl
 have hφn:∀ r,r≠f→φ' r=φ r:=fun r h=>if_neg h
 have hkeep:∀ v a,Rep X w φ v a→Rep X' w' φ' v a:=fun v a h =>
  h.keep (by omega) (fun b hb _=>hold b hb) hbs (fun b hb h=>h.resolve_right (by omega)) hφ
 refine ⟨⟨hos,htp,hout,by omega,fun b hb _=>hold b hb,hbs,fun b hb h=>h.resolve_right (by omega),fun b _ h=>.inl (.inl h),fun r h=>hφn r h,fun r cs1 b o h1 h2=>?_⟩,⟨fun r cs1 h1=>?_,fun r1 r2 c1 c2 b o1 o2 h1 h2 h3 h4=>?_,hst.gl.keep (by omega) (fun b hb _=>hold b hb) (fun b hb h=>h.resolve_right (by omega))⟩,hkeep,hφf⟩
 ·by_cases hr:r=f
  ·subst hr;rw [hφf] at h2;injection h2 with h2;injection h2 with h2;exact .inl (by omega)
  ·rw [up_ne hr] at h1
   rw [hφn r hr] at h2
   exact .inr ⟨r,cs1,o,h1,h2⟩
 ·by_cases hr:r=f
  ·subst hr
   rw [up_at] at h1
   injection h1 with h1
   subst h1
   exact .inr ⟨w.heap.size,0,hφf,.inr rfl,hB hkeep⟩
  ·rw [up_ne hr] at h1
   obtain ⟨hn,hn2⟩|⟨b',o',h2,h3,h4⟩:=hst.1 r cs1 h1
   ·exact .inl ⟨hn,by rw [hφn r hr];exact hn2⟩
   ·exact .inr ⟨b',o',by rw [hφn r hr];exact h2,.inl h3,h4.keep (hold b' h4.lt) hkeep⟩
 ·have hblk:∀ r c' o,r≠f→K r=some c'→φ r=some (b,o)→b < w.heap.size:=fun r c' o _ hK hp=>(hst.blk hK hp).2.lt
  by_cases hr1:r1=f
  ·by_cases hr2:r2=f
   ·rw [hr1,hr2]
   ·exfalso
    subst hr1
    rw [hφf] at h3
    injection h3 with h3
    injection h3 with h3 _
    rw [up_ne hr2] at h2
    rw [hφn r2 hr2] at h4
    have:=hblk r2 c2 o2 hr2 h2 h4
    omega
  ·rw [up_ne hr1] at h1
   rw [hφn r1 hr1] at h3
   by_cases hr2:r2=f
   ·exfalso
    subst hr2
    rw [hφf] at h4
    injection h4 with h4
    injection h4 with h4 _
    have:=hblk r1 c1 o1 hr1 h1 h3
    omega
   ·rw [up_ne hr2] at h2
    rw [hφn r2 hr2] at h4
    exact hst.2 r1 r2 c1 c2 b o1 o2 h1 h2 h3 h4
theorem St.fresh {K:Hp} {f:Nat} {cs:List AV} {w':World} {c:Array Value} {e:TypeId} (hst:St X φ K w) (hf:φ f=none)
 (hos:w'.os=w.os) (htp:w'.tape=w.tape) (hout:w'.output=w.output) (hheap:w'.heap=w.heap.push (.cells c e))
 (hcs:∀ (j:Nat) a,cs[j]?=some a→a.one=true∧∃ u,c[j]?=some u∧Rep X w φ u a) :
 let X':Nat→Prop:=fun b=>X b∨b=w.heap.size
 let φ':Em:=fun r=>if r=f then some (w.heap.size,0) else φ r
 Nxt K (·=f) X φ w (up K f (some cs)) X' φ' w'∧St X' φ' (up K f (some cs)) w'∧(∀ v a,Rep X w φ v a→Rep X' w' φ' v a)∧bsz w' w.heap.size=c.size + 1∧φ' f=some (w.heap.size,0):=by
 intro X' φ'
 have hnew:w'.heap[w.heap.size]?=some (.cells c e (0,0)):=by rw [hheap];simp
 obtain ⟨h1,h2,h3,h4⟩:=hst.freshB (cs:=cs) hf hos htp hout hheap fun hk=>.cells c e hnew fun j a hj=>⟨(hcs j a hj).1,(hcs j a hj).2.elim fun u hu=>⟨u,by rw [Nat.zero_add];exact hu.1,hk _ _ hu.2⟩⟩
 exact ⟨h1,h2,h3,bsz_of hnew,h4⟩
theorem St.drop {K K':Hp} (h:St X φ K w) (hK:∀ r cs,K' r=some cs→K r=some cs):St X φ K' w :=
 ⟨fun r cs hr=>h.1 r cs (hK r cs hr),fun r r' cs cs' b o o' h1 h2 h3 h4=>h.2 r r' cs cs' b o o' (hK _ _ h1) (hK _ _ h2) h3 h4,h.gl⟩
theorem Nxt.drop {H K' K'':Hp} {f:Nat→Prop} {X':Nat→Prop} {φ':Em} {w':World} (h:Nxt H f X φ w K' X' φ' w') (hK:∀ r cs,K'' r=some cs→K' r=some cs):Nxt H f X φ w K'' X' φ' w' :=
 { h with lv:=fun r cs b o h1 h2=>h.lv r cs b o (hK r cs h1) h2 }
end
def Good (X:Nat→Prop) (w:World) (φ:Em) (cells:Array Value) (cs:List AV):Prop :=
 cells.size=cs.length∧∀ (j:Nat) c,cs[j]?=some c→c.one=true∧∃ u,cells[j]?=some u∧Rep X w φ u c
section
variable {X:Nat→Prop} {w:World} {φ:Em}
theorem Rep.good {v:Value} {a:AV} (h:Rep X w φ v a) (h1:a.one=true∨∃ cs,a=.agg cs):Good X w φ v.cells a.cells:=h.cells h1
theorem foldset:∀ (vs:List Value) (off k:Nat) (cells:Array Value),
 ((vs.zipIdx k).foldl (fun (cs:Array Value) (p:Value × Nat)=>cs.setIfInBounds (off + p.2) p.1) cells).size=cells.size ∧
 ∀ j,((vs.zipIdx k).foldl (fun (cs:Array Value) (p:Value × Nat)=>cs.setIfInBounds (off + p.2) p.1) cells)[j]?=if off + k≤j∧j < off + k + vs.length∧j < cells.size then vs[j - (off + k)]? else cells[j]?:=by
 intro vs
 induction vs with
 | nil=>intro off k cells;exact ⟨rfl,fun j=>by simp;intro h1 h2;omega⟩
 | cons v vs ih =>
  intro off k cells
  obtain ⟨h1,h2⟩:=ih off (k + 1) (cells.setIfInBounds (off + k) v)
  refine ⟨by simpa using h1,fun j=>?_⟩
  have:=h2 j
  simp only [List.zipIdx_cons,List.foldl_cons] at this ⊢
  rw [this]
  simp only [Array.size_setIfInBounds,List.length_cons]
  by_cases hj:j=off + k
  ·subst hj
   rw [if_neg (by omega)]
   by_cases hlt:off + k < cells.size
   ·rw [if_pos (by omega)]
    simp [hlt]
   ·rw [if_neg (by omega)]
    simp [hlt]
  ·rw [Array.getElem?_setIfInBounds_ne (by omega)]
   by_cases hc:off + (k + 1)≤j∧j < off + (k + 1) + vs.length∧j < cells.size
   ·rw [if_pos hc,if_pos (by omega),show j - (off + k)=(j - (off + (k + 1))) + 1 from by omega]
    simp
   ·rw [if_neg hc,if_neg (by omega)]
theorem Good.splice {cells vs:Array Value} {cs ns cs':List AV} {off:Nat} (h:Good X w φ cells cs) (hv:Good X w φ vs ns) (hs:Sp cs off ns cs') :
 Good X w φ (vs.zipIdx.foldl (fun (cs:Array Value) (p:Value × Nat)=>cs.setIfInBounds (off + p.2) p.1) cells) cs':=by
 rw [← Array.foldl_toList,Array.toList_zipIdx]
 obtain ⟨h1,h2⟩:=foldset vs.toList off 0 cells
 refine ⟨by rw [h1,h.1,hs.2.1],fun j c hj=>?_⟩
 rw [h2 j]
 have hjl:j < cs'.length:=(List.getElem?_eq_some_iff.1 hj).1
 have hvl:vs.toList.length=ns.length:=by simpa using hv.1
 rcases hs.2.2 j c hj with ⟨h3,h4⟩|⟨h3,h4⟩
 ·have h5:j - off < ns.length:=(List.getElem?_eq_some_iff.1 h4).1
  rw [if_pos ⟨by omega,by omega,by rw [h.1,← hs.2.1];exact hjl⟩]
  obtain ⟨h6,u,h7,h8⟩:=hv.2 (j - off) c h4
  exact ⟨h6,u,by simpa using h7,h8⟩
 ·rw [if_neg (by omega)]
  exact h.2 j c h4
inductive Fil (E:Operand→Option AV) (pl:Nat→Option (Nat × Nat)):List AV→List (Nat × Operand)→List AV→Prop
 | nil {cs:List AV}:Fil E pl cs [] cs
 | cons {cs cs1 cs':List AV} {i:Nat} {x:Operand} {a:AV} {off sz:Nat} {ps:List (Nat × Operand)} (hx:E x=some a) (hp:pl i=some (off,sz)) (h1:a.okb=true) (hl:a.cells.length=sz)
  (hs:Sp cs off a.cells cs1) (h:Fil E pl cs1 ps cs'):Fil E pl cs ((i,x)::ps) cs'
theorem Fil.len {E:Operand→Option AV} {pl:Nat→Option (Nat × Nat)} {cs cs':List AV} {ps:List (Nat × Operand)} (h:Fil E pl cs ps cs'):cs'.length=cs.length:=by
 induction h with
 | nil=>rfl
 | cons _ _ _ _ hs _ ih=>rw [ih,hs.2.1]
theorem fill_ok {E:Operand→Option AV} {pl:Nat→Option (Nat × Nat)} {ρ:Operand→Value} {cs cs':List AV} {ps:List (Nat × Operand)} (h:Fil E pl cs ps cs') (hE:∀ x,x∈ps.map (·.2)→∀ a,E x=some a→Rep X w φ (ρ x) a) :
 ∀ cells,Good X w φ cells cs→∃ cells',Instr.fill pl cells (ps.map fun p=>(p.1,ρ p.2))=some cells'∧Good X w φ cells' cs':=by
 induction h with
 | nil=>intro cells hg;exact ⟨cells,rfl,hg⟩
 | cons hx hp h1 hl hs _ ih =>
  intro cells hg
  rename_i cs0 cs1 cs2 i x a off sz ps hh
  have hr:=hE x (by simp) a hx
  have hv:=hr.good (AV.okb_or h1)
  obtain ⟨cells',h2,h3⟩:=ih (fun y hy=>hE y (by simp at hy ⊢;exact .inr hy)) _ (hg.splice hv hs)
  refine ⟨cells',?_,h3⟩
  have hc1:¬ ((ρ x).cells.size≠sz):=by rw [hv.1,hl];simp
  have hc2:¬ (off + (ρ x).cells.size > cells.size):=by rw [hv.1,hg.1];have:=hs.1;omega
  simp only [List.map_cons,Instr.fill,hp]
  rw [if_neg (by simp only [Bool.or_eq_true,decide_eq_true_eq];rintro (h|h);exact hc1 h;exact hc2 h)]
  exact h2
theorem Good.zero {zero:List AV} {z:Value} (h1:z.cells.toList.map absC=zero) (h2:∀ u∈z.cells.toList,u.oneCell'=true):Good X w φ z.cells zero:=by
 subst h1
 refine ⟨by simp,fun j c hj=>?_⟩
 simp only [List.getElem?_map] at hj
 cases hz:z.cells.toList[j]? with
 | none=>rw [hz] at hj;cases hj
 | some u =>
  rw [hz] at hj
  injection hj with hj
  subst hj
  exact ⟨absC_one (h2 u (List.mem_of_getElem? hz)),u,by simpa using hz,rep_absC u⟩
end
section
variable {P:Program} {o:Oper} {E:Operand→Option AV} {H:Hp} {f:Nat} {v a:AV}
theorem LO.mk (cs : List AV) (h : ∀ (X : Nat → Prop) (φ : Em) (w : World) (ρ : Operand → Value), (∀ x, x ∈ o.op.operands → ∀ a, E x = some a → Rep X w φ (ρ x) a) →
      ∃ c e x w',(execOp ρ o).run P w=.ok (.value x) w'∧w'.heap=w.heap.push (.cells c e)∧w'.os=w.os∧w'.tape=w.tape∧w'.output=w.output ∧
        (∀ (j:Nat) a,cs[j]?=some a→a.one=true∧∃ u,c[j]?=some u∧Rep X w φ u a) ∧
        ∀ (X':Nat→Prop) (φ':Em),φ' f=some (w.heap.size,0)→bsz w' w.heap.size=c.size + 1→Rep X' w' φ' x v) :
 LO P o E H f [] [f] v (up H f (some cs)):=by
 refine ⟨fun r hr=>up_ne (by simpa using hr),fun E' K hE hK X φ w ρ hR hst hf=>?_⟩
 rw [ovr_one]
 obtain ⟨c,e,x,w',hx,hh,hos,htp,hout,hcs,hv⟩:=h X φ w ρ (fun x hx a ha=>hR x a ((hE x hx).trans ha))
 unfold OpW
 rw [hx]
 obtain ⟨h1,h2,h3,h4,h5⟩:=hst.fresh hf hos htp hout hh hcs
 exact ⟨_,_,h1,h2,hv _ _ h5 h4⟩
section
variable {t:TypeId} {l:Lay} {size bytes:Nat} {zero:List AV}
theorem LO.alloc (ho:o.op=.alloc t) (ht:TyOK P t l size bytes zero):LO P o E H f [] [f] (.own f 0) (up H f (some zero)):=by
 obtain ⟨z,hz,hzs,hzm,hzl,h1⟩:=ht.zeroV
 refine .mk zero fun X φ w ρ hR=>⟨z.cells,t,.pointer (some ⟨w.heap.size,0,none⟩),w.alloc (.cells z.cells t),?_,rfl,rfl,rfl,rfl,(Good.zero hzm h1).2,fun X' φ' hf hbz=>?_⟩
 ·simp [execOp,ho,Instr.alloc,hz,newVar,newRow,newObj,Sem.run,Pure.pure]
 ·exact .own f 0 w.heap.size 0 hf (by omega)
theorem LO.box {x:Operand} (ho:o.op=.box t x) (hx:E x=some a) (h1:a.okb=true):LO P o E H f [] [f] (.own f 0) (up H f (some a.cells)):=by
 refine .mk a.cells fun X φ w ρ hR=>⟨(ρ x).cells,t,.pointer (some ⟨w.heap.size,0,none⟩),w.alloc (.cells (ρ x).cells t),?_,rfl,rfl,rfl,rfl,((hR x (by simp [ho,Op.operands]) a hx).good (AV.okb_or h1)).2,fun X' φ' hf hbz=>?_⟩
 ·simp [execOp,ho,Instr.box,newVar,newRow,newObj,Sem.run,Pure.pure]
 ·exact .own f 0 w.heap.size 0 hf (by omega)
theorem built_st {fs:List (Nat × Nat × Nat)} (ht:TyOK P t (.st fs) size bytes zero):∃ z:Value,z.cells.toList.map absC=zero∧(∀ u∈z.cells.toList,u.oneCell'=true)∧∀ parts,P.built t parts=Instr.fill (fun i=>(fs[i]?).map fun f=>(f.1,f.2.1)) z.cells parts:=by
 obtain ⟨d,inf,z,h1,h2,h3,h4,h5,h6,h7,h8,h9,h10⟩:=ht.spec
 refine ⟨z,h7,fun u hu=>List.all_eq_true.1 h9 u hu,fun parts=>?_⟩
 cases d<;>simp only [layOf] at h2<;>try (cases h2;done)
 rename_i flds
 injection h2 with h2
 subst h2
 unfold Program.built
 simp only [h3,h1,h6]
 have hm:∀ (fl:List Field),(fl.all fun f=>(P.info? f.type).isSome)=true→fl.mapM (fun f=>(P.info? f.type).map fun i=>(f.offset,i.size))=some (fl.map fun f=>(f.offset,((P.info? f.type).map (·.size)).getD 0)):=by
  intro fl
  induction fl with
  | nil=>intro _;rfl
  | cons f fl ih =>
   intro h
   simp only [List.all_cons,Bool.and_eq_true] at h
   obtain ⟨i,hi⟩:=Option.isSome_iff_exists.1 h.1
   simp [List.mapM_cons,hi,ih h.2]
 rw [hm _ h10]
 simp only
 congr 1
 funext i
 simp
 rfl
theorem built_ar {n e:Nat} {l':Lay} {sz bytes':Nat} {zero':List AV} (ht:TyOK P t (.arr n e) size bytes zero) (he:TyOK P e l' sz bytes' zero'):∃ z:Value,z.cells.toList.map absC=zero∧(∀ u∈z.cells.toList,u.oneCell'=true)∧∀ parts,P.built t parts=Instr.fill (fun i=>some (i * sz,sz)) z.cells parts:=by
 obtain ⟨d,inf,z,h1,h2,h3,h4,h5,h6,h7,h8,h9,h10⟩:=ht.spec
 obtain ⟨d',inf',z',g1,g2,g3,g4,_⟩:=he.spec
 refine ⟨z,h7,fun u hu=>List.all_eq_true.1 h9 u hu,fun parts=>?_⟩
 cases d<;>simp only [layOf] at h2<;>try (cases h2;done)
 injection h2 with h2 h2'
 subst h2 h2'
 unfold Program.built
 simp only [h3,h1,h6,g3,g4]
theorem map_parts (parts:Array (Nat × Operand)) (ρ:Operand→Value):(parts.map fun (i,x)=>(i,ρ x)).toList=parts.toList.map fun p=>(p.1,ρ p.2):=by simp
theorem LO.build_st {fs:List (Nat × Nat × Nat)} {parts:Array (Nat × Operand)} {cs:List AV} (ho:o.op=.build t parts) (ht:TyOK P t (.st fs) size bytes zero) (hf:Fil E (fun i=>(fs[i]?).map fun f=>(f.1,f.2.1)) zero parts.toList cs) :
 LO P o E H f [] [] (.agg cs) H :=
 .pure fun X φ w ρ hR=>by
  obtain ⟨z,hz1,hz2,hb⟩:=built_st ht
  obtain ⟨cells',h1,h2⟩:=fill_ok (X:=X) (w:=w) (φ:=φ) (ρ:=ρ) hf (fun x hx a ha=>hR x (by rw [ho];simpa [Op.operands] using hx) a ha) z.cells (Good.zero hz1 hz2)
  refine ⟨.agg cells',?_,.agg _ _ h2.1 (fun i c hc=>(h2.2 i c hc).1) fun i v c hv hc=>?_⟩
  ·have:=run_build (P:=P) w t (parts.map fun (i,x)=>(i,ρ x)) cells' (by rw [hb,map_parts];exact h1)
   simp only [execOp,ho,Sem.run_bind,this,Result.andThen_ok,Sem.run_pure]
  ·obtain ⟨_,u,h3,h4⟩:=h2.2 i c hc
   rw [hv] at h3
   injection h3 with h3
   subst h3
   exact h4
theorem LO.build_ar {n e:Nat} {l':Lay} {sz bytes':Nat} {zero':List AV} {parts:Array (Nat × Operand)} {cs:List AV} (ho:o.op=.build t parts) (ht:TyOK P t (.arr n e) size bytes zero) (he:TyOK P e l' sz bytes' zero') (hf:Fil E (fun i=>some (i * sz,sz)) zero parts.toList cs) :
 LO P o E H f [] [] (.agg cs) H :=
 .pure fun X φ w ρ hR=>by
  obtain ⟨z,hz1,hz2,hb⟩:=built_ar ht he
  obtain ⟨cells',h1,h2⟩:=fill_ok (X:=X) (w:=w) (φ:=φ) (ρ:=ρ) hf (fun x hx a ha=>hR x (by rw [ho];simpa [Op.operands] using hx) a ha) z.cells (Good.zero hz1 hz2)
  refine ⟨.agg cells',?_,.agg _ _ h2.1 (fun i c hc=>(h2.2 i c hc).1) fun i v c hv hc=>?_⟩
  ·have:=run_build (P:=P) w t (parts.map fun (i,x)=>(i,ρ x)) cells' (by rw [hb,map_parts];exact h1)
   simp only [execOp,ho,Sem.run_bind,this,Result.andThen_ok,Sem.run_pure]
  ·obtain ⟨_,u,h3,h4⟩:=h2.2 i c hc
   rw [hv] at h3
   injection h3 with h3
   subst h3
   exact h4
def zerosL (n:Nat) (zero:List AV):List AV:=(List.replicate n zero).flatten
theorem zerosL_len (n:Nat) (zero:List AV):(zerosL n zero).length=n * zero.length:=by simp [zerosL]
theorem zerosL_get (n:Nat) (zero:List AV) (_h0:0 < zero.length):∀ (j:Nat) c,(zerosL n zero)[j]?=some c→zero[j % zero.length]?=some c:=by
 induction n with
 | zero=>intro j c h;simp [zerosL] at h
 | succ n ih =>
  intro j c h
  rw [show zerosL (n + 1) zero=zero++zerosL n zero from by simp [zerosL,List.replicate_succ]] at h
  rw [List.getElem?_append] at h
  split at h
  ·rename_i hj
   rwa [Nat.mod_eq_of_lt hj]
  ·rename_i hj
   have:=ih _ _ h
   rwa [Nat.mod_eq_sub_mod (by omega)]
theorem good_zeros {X:Nat→Prop} {w:World} {φ:Em} {z:Value} {zero:List AV} (n:Nat) (h1:z.cells.toList.map absC=zero) (h2:∀ u∈z.cells.toList,u.oneCell'=true) (h0:0 < zero.length) :
 Good X w φ ((Array.range (n * zero.length)).map (z.cells[· % z.cells.size]!)) (zerosL n zero):=by
 have hg:=Good.zero (X:=X) (w:=w) (φ:=φ) h1 h2
 refine ⟨by simp [zerosL_len],fun j c hj=>?_⟩
 have hlt:j < n * zero.length:=by rw [← zerosL_len];exact (List.getElem?_eq_some_iff.1 hj).1
 obtain ⟨h3,u,h4,h5⟩:=hg.2 _ c (zerosL_get n zero h0 j c hj)
 refine ⟨h3,u,?_,h5⟩
 have hs:z.cells.size=zero.length:=hg.1
 rw [← hs] at h4
 have hm:j % z.cells.size < z.cells.size:=Nat.mod_lt _ (by omega)
 simp [hlt]
 simp [hm] at h4 ⊢
 exact h4
theorem LO.buildSlice {e:Nat} {l':Lay} {sz bytes' n:Nat} {zero':List AV} {parts:Array (Nat × Operand)} {cs:List AV} (ho:o.op=.buildSlice t n parts) (ht:TyOK P t (.sl e) size bytes zero) (he:TyOK P e l' sz bytes' zero') (h0:0 < sz) (hn:n * sz≤2 ^ 24)
 (hf:Fil E (fun i=>some (i * sz,sz)) (zerosL n zero') parts.toList cs):LO P o E H f [] [f] (.osl f 0 n sz) (up H f (some cs)):=by
 obtain ⟨z,hz,hzs,hzm,hzl,h1⟩:=he.zeroV
 obtain ⟨d,inf,zz,g1,g2,_⟩:=ht.spec
 have hd:d=.slice e:=by
  cases d<;>simp only [layOf] at g2<;>try (cases g2;done)
  injection g2 with g2;rw [g2]
 subst hd
 refine .mk cs fun X φ w ρ hR=>?_
 have hg:=good_zeros (X:=X) (w:=w) (φ:=φ) n hzm h1 (by omega)
 rw [hzl] at hg
 obtain ⟨cells',h2,h3⟩:=fill_ok (X:=X) (w:=w) (φ:=φ) (ρ:=ρ) hf (fun x hx a ha=>hR x (by rw [ho];simpa [Op.operands] using hx) a ha) _ hg
 refine ⟨cells',e,.slice (some ⟨w.heap.size,0,none⟩) n n,w.alloc (.cells cells' e),?_,rfl,rfl,rfl,rfl,h3.2,fun X' φ' hf' hb=>?_⟩
 ·have hne:¬ (n * sz > 2 ^ 24):=by omega
  have h4:Instr.fill (fun i=>some (i * sz,sz)) ((Array.range (n * sz)).map fun x=>z.cells[x % z.cells.size]!) (parts.map fun (i,x)=>(i,ρ x)).toList=some cells':=by rw [map_parts];exact h2
  by_cases hn0:n * sz=0
  ·obtain rfl:n=0:=by
    rcases Nat.eq_zero_or_pos n with h|h
    ·exact h
    ·have:=Nat.mul_pos h h0;omega
   have hr0:(Array.range (0 * sz)).map (fun x=>z.cells[x % z.cells.size]!)=#[]:=by simp
   rw [hr0] at h4
   simp only [execOp,ho,Instr.buildSlice,Sem.run_bind,run_underlying g1,Result.andThen_ok,he.sizeOf,if_neg hne,if_pos hn0,Sem.run_pure]
   have hr1:∀ g:Nat→Value,(Array.range (0 * sz)).map g=#[]:=fun g=>by simp
   rw [hr1,h4]
   simp [newRow,newObj,Sem.run,Pure.pure]
  ·simp only [execOp,ho,Instr.buildSlice,Sem.run_bind,run_underlying g1,Result.andThen_ok,he.sizeOf,if_neg hne,if_neg hn0,Sem.run_pure,hz]
   rw [h4]
   simp [newRow,newObj,Sem.run,Pure.pure]
 ·have hbz:bsz (w.alloc (.cells cells' e)) w.heap.size=n * sz + 1:=by
   rw [hb,h3.1]
   rw [hf.len,zerosL_len,hzl]
  have:=Rep.osl (X:=X') (w:=w.alloc (.cells cells' e)) (φ:=φ') f 0 n sz w.heap.size 0 n hf' (Nat.le_refl _) (by rw [hbz];omega)
  exact this
end
end
section
variable {P:Program} {o:Oper} {E:Operand→Option AV} {H:Hp} {f:Nat} {v a:AV} {t:TypeId} {l:Lay} {size bytes:Nat} {zero:List AV}
theorem Rep.own_inv {X:Nat→Prop} {w:World} {φ:Em} {u:Value} {r off:Nat} (h:Rep X w φ u (.own r off)):∃ b o,φ r=some (b,o)∧u=.pointer (some ⟨b,o + off,none⟩)∧0 < bsz w b:=by
 cases h with
 | own _ _ b o hp h0=>exact ⟨b,o,hp,rfl,h0⟩
theorem Rep.imm_inv {X:Nat→Prop} {w:World} {φ:Em} {u:Value} {cs:List AV} {off:Nat} (h:Rep X w φ u (.imm cs off)) :
 ∃ b o,u=.pointer (some ⟨b,o + off,none⟩)∧b < w.heap.size∧¬ X b∧∀ (i:Nat) c,cs[i]?=some c→c.one=true∧∃ u,w.cell? ⟨b,o + i,none⟩=some u∧∀ φ':Em,Rep X w φ' u c:=by
 cases h with
 | imm _ _ b o us hb hx h1 hc h=>exact ⟨b,o,rfl,hb,hx,fun i c hi=>⟨h1 i c hi,us i,hc i c hi,fun φ'=>(h i c hi).keep (Nat.le_refl _) (fun _ _ _=>rfl) (fun _ _=>rfl) (fun _ _ h=>h) (fun _ _ h=>by cases h)⟩⟩
def AV.isl?:AV→Option (List AV × Nat)
 | .isl cs n=>some (cs,n)
 | .nils=>some ([],0)
 | _=>none
theorem Rep.isl_inv {X:Nat→Prop} {w:World} {φ:Em} {u:Value} {a:AV} {cs:List AV} {n:Nat} (h:Rep X w φ u a) (ha:a.isl?=some (cs,n)) :
 ∃ A cap,u=.slice A n cap∧n≤cap∧((cs=[]∧n=0)∨∃ b o,A=some ⟨b,o,none⟩∧b < w.heap.size∧¬ X b∧∀ (i:Nat) c,cs[i]?=some c→c.one=true∧∃ u,w.cell? ⟨b,o + i,none⟩=some u∧∀ φ':Em,Rep X w φ' u c):=by
 cases h<;>simp only [AV.isl?] at ha<;>try (cases ha;done)
 ·injection ha with ha
  injection ha with h1 h2
  subst h1 h2
  exact ⟨none,0,rfl,Nat.le_refl _,.inl ⟨rfl,rfl⟩⟩
 ·injection ha with ha
  injection ha with h1 h2
  subst h1 h2
  exact ⟨_,_,rfl,Nat.zero_le _,.inl ⟨rfl,rfl⟩⟩
 ·rename_i cs0 len cap b o us hb hx hcap h1 hc h
  injection ha with ha
  injection ha with e1 e2
  subst e1 e2
  exact ⟨_,cap,rfl,hcap,.inr ⟨b,o,rfl,hb,hx,fun i c hi=>⟨h1 i c hi,us i,hc i c hi,fun φ'=>(h i c hi).keep (Nat.le_refl _) (fun _ _ _=>rfl) (fun _ _=>rfl) (fun _ _ h=>h) (fun _ _ h=>by cases h)⟩⟩⟩
theorem Rep.osl_inv {X:Nat→Prop} {w:World} {φ:Em} {u:Value} {r off len sz:Nat} (h:Rep X w φ u (.osl r off len sz)) :
 ∃ A cap,u=.slice A len cap∧len≤cap∧((len=0∧cap=0)∨∃ b o,φ r=some (b,o)∧A=some ⟨b,o + off,none⟩∧o + off + cap * sz < bsz w b):=by
 cases h with
 | osl _ _ _ _ b o cap hp hc hs=>exact ⟨_,cap,rfl,hc,.inr ⟨b,o,hp,rfl,hs⟩⟩
 | osl0 A _ _ _=>exact ⟨A,0,rfl,Nat.le_refl _,.inl ⟨rfl,rfl⟩⟩
theorem mk_imm {X:Nat→Prop} {w:World} {φ:Em} {cs:List AV} {b o:Nat} (off:Nat) (hb:b < w.heap.size) (hx:¬ X b) (h:∀ (i:Nat) c,cs[i]?=some c→c.one=true∧∃ u,w.cell? ⟨b,o + i,none⟩=some u∧∀ φ':Em,Rep X w φ' u c) :
 Rep X w φ (.pointer (some ⟨b,o + off,none⟩)) (.imm cs off) :=
 .imm cs off b o (fun i=>(w.cell? ⟨b,o + i,none⟩).getD undef) hb hx (fun i c hi=>(h i c hi).1) (fun i c hi=>by obtain ⟨_,u,hu,_⟩:=h i c hi;rw [hu];rfl) (fun i c hi=>by obtain ⟨_,u,hu,hr⟩:=h i c hi;simp only [hu];exact hr _)
theorem mk_isl {X:Nat→Prop} {w:World} {φ:Em} {cs:List AV} {b o len cap:Nat} (hc:len≤cap) (hb:b < w.heap.size) (hx:¬ X b) (h:∀ (i:Nat) c,cs[i]?=some c→c.one=true∧∃ u,w.cell? ⟨b,o + i,none⟩=some u∧∀ φ':Em,Rep X w φ' u c) :
 Rep X w φ (.slice (some ⟨b,o,none⟩) len cap) (.isl cs len) :=
 .isl cs len cap b o (fun i=>(w.cell? ⟨b,o + i,none⟩).getD undef) hb hx hc (fun i c hi=>(h i c hi).1) (fun i c hi=>by obtain ⟨_,u,hu,_⟩:=h i c hi;rw [hu];rfl) (fun i c hi=>by obtain ⟨_,u,hu,hr⟩:=h i c hi;simp only [hu];exact hr _)
theorem run_load_at {w:World} {a:Addr} {u:Value} (h:w.cell? a=some u):(Go.load a).run P w=.ok u w:=by simp [Go.load,Sem.run,h]
theorem LO.load {x:Operand} {r off:Nat} {cs:List AV} (ho:o.op=.load t x) (hx:E x=some (.own r off)) (hH:H r=some cs) (ha:cs[off]?=some a) (ht:TyOK P t l size bytes zero) (hg:l.agg=false):LO P o E H f [r] [] a H :=
 .read r fun X φ w ρ K hR hK hst=>by
  obtain ⟨b,o',hp,e,hbs0⟩:=(hR x (by simp [ho,Op.operands]) _ hx).own_inv
  obtain ⟨c,el,hX,hh,hcs⟩:=hst.cells (hK.trans hH) hp (by omega)
  obtain ⟨_,u,hu,hr⟩:=hcs off a ha
  refine ⟨u,?_,hr⟩
  have hc:w.cell? ⟨b,o' + off,none⟩=some u:=by rw [cell_of hh];exact hu
  simp only [execOp,ho,Instr.loadAt,e,Instr.sureAddr,Sem.run_bind,Sem.run_pure,Result.andThen_ok,loadVar,ht.isAgg,hg,Bool.false_eq_true,if_false,run_load_at hc]
theorem LO.load_agg {x:Operand} {r off:Nat} {cs vs:List AV} (ho:o.op=.load t x) (hx:E x=some (.own r off)) (hH:H r=some cs) (ht:TyOK P t l size bytes zero) (hg:l.agg=true) (hv:Tk cs off size vs):LO P o E H f [r] [] (.agg vs) H :=
 .read r fun X φ w ρ K hR hK hst=>by
  obtain ⟨b,o',hp,e,hbs0⟩:=(hR x (by simp [ho,Op.operands]) _ hx).own_inv
  obtain ⟨c,el,hX,hh,hcs⟩:=hst.cells (hK.trans hH) hp (by omega)
  obtain ⟨us,h1,h2,h3⟩:=run_cells (P:=P) (X:=X) (φ:=φ) (w:=w) (b:=b) (i:=o' + off) vs fun j d hj=>by
   obtain ⟨_,u,hu,hr⟩:=hcs (off + j) d (hv.2 j d hj)
   exact ⟨u,by rw [cell_of hh,Nat.add_assoc];exact hu,hr⟩
  rw [hv.1] at h2
  refine ⟨.agg us,by simp only [execOp,ho,Instr.loadAt,e,Instr.sureAddr,Sem.run_bind,Sem.run_pure,Result.andThen_ok,loadVar,ht.isAgg,hg,if_true,ht.sizeOf,h2],.agg _ _ h1 (fun i d hi=>(hcs _ d (hv.2 i d hi)).1) fun i u d hu hi=>?_⟩
  obtain ⟨u',hu',_,hr⟩:=h3 i d hi
  rw [hu] at hu'
  injection hu' with hu'
  subst hu'
  exact hr
theorem LO.load_imm {x:Operand} {off:Nat} {cs:List AV} (ho:o.op=.load t x) (hx:E x=some (.imm cs off)) (ha:cs[off]?=some a) (ht:TyOK P t l size bytes zero) (hg:l.agg=false):LO P o E H f [] [] a H :=
 .pure fun X φ w ρ hR=>by
  obtain ⟨b,o',e,hb,hX,hcs⟩:=(hR x (by simp [ho,Op.operands]) _ hx).imm_inv
  obtain ⟨_,u,hu,hr⟩:=hcs off a ha
  refine ⟨u,?_,hr φ⟩
  simp only [execOp,ho,Instr.loadAt,e,Instr.sureAddr,Sem.run_bind,Sem.run_pure,Result.andThen_ok,loadVar,ht.isAgg,hg,Bool.false_eq_true,if_false,run_load_at hu]
theorem LO.load_imm_agg {x:Operand} {off:Nat} {cs vs:List AV} (ho:o.op=.load t x) (hx:E x=some (.imm cs off)) (ht:TyOK P t l size bytes zero) (hg:l.agg=true) (hv:Tk cs off size vs):LO P o E H f [] [] (.agg vs) H :=
 .pure fun X φ w ρ hR=>by
  obtain ⟨b,o',e,hb,hX,hcs⟩:=(hR x (by simp [ho,Op.operands]) _ hx).imm_inv
  obtain ⟨us,h1,h2,h3⟩:=run_cells (P:=P) (X:=X) (φ:=φ) (w:=w) (b:=b) (i:=o' + off) vs fun j d hj=>by
   obtain ⟨_,u,hu,hr⟩:=hcs (off + j) d (hv.2 j d hj)
   exact ⟨u,by rw [Nat.add_assoc];exact hu,hr φ⟩
  rw [hv.1] at h2
  refine ⟨.agg us,by simp only [execOp,ho,Instr.loadAt,e,Instr.sureAddr,Sem.run_bind,Sem.run_pure,Result.andThen_ok,loadVar,ht.isAgg,hg,if_true,ht.sizeOf,h2],.agg _ _ h1 (fun i d hi=>(hcs _ d (hv.2 i d hi)).1) fun i u d hu hi=>?_⟩
  obtain ⟨u',hu',_,hr⟩:=h3 i d hi
  rw [hu] at hu'
  injection hu' with hu'
  subst hu'
  exact hr
theorem splice_get {α:Type} (cur vs:List α) (k i:Nat) (h:k + vs.length≤cur.length):(cur.take k++vs++cur.drop (k + vs.length))[i]?=if i < k then cur[i]? else if i < k + vs.length then vs[i - k]? else cur[i]?:=by
 have hm:min k cur.length=k:=by omega
 simp only [List.getElem?_append,List.length_append,List.length_take,List.getElem?_take,List.getElem?_drop,hm]
 by_cases h1:i < k
 ·simp [h1,show i < k + vs.length by omega]
 ·by_cases h2:i < k + vs.length
  ·simp [h1,h2]
  ·simp only [h1,h2,if_false]
   rw [show k + vs.length + (i - (k + vs.length))=i from by omega]
theorem LO.store {x y:Operand} {r off:Nat} {cs cs':List AV} (ho:o.op=.store t x y) (hx:E x=some (.own r off)) (hy:E y=some a) (hH:H r=some cs) (h1:a.okb=true) (ht:TyOK P t l size bytes zero) (hl:a.cells.length=size) (h0:0 < size)
 (hs:Sp cs off a.cells cs'):LO P o E H f [] [r] (.base undef) (up H r (some cs')):=by
 refine ⟨fun r' hr=>up_ne (by simpa using hr),fun E' K hE hK X φ w ρ hR hst hf=>?_⟩
 rw [ovr_one]
 obtain ⟨b,o',hp,e,hbs0⟩:=(hR x _ ((hE x (by simp [ho,Op.operands])).trans hx)).own_inv
 have hry:=hR y _ ((hE y (by simp [ho,Op.operands])).trans hy)
 have hg:=hry.good (AV.okb_or h1)
 have hKr:=(hK r (.inr (by simp))).trans hH
 obtain ⟨c,el,hX,hh,hcs⟩:=hst.cells hKr hp (by omega)
 have hvl:(ρ y).cells.toList.length=a.cells.length:=by simpa using hg.1
 have hs1:=hs.1
 have hfit:o' + off + (ρ y).cells.toList.length≤c.size:=by
  obtain ⟨_,u,hu,_⟩:=hcs (cs.length - 1) cs[cs.length - 1] (List.getElem?_eq_getElem (by omega))
  have:=(Array.getElem?_eq_some_iff.1 hu).1
  omega
 have hone:∀ u∈(ρ y).cells.toList,u.oneCell'=true:=by
  intro u hu
  obtain ⟨j,hj,e⟩:=List.mem_iff_getElem.1 hu
  obtain ⟨h2,u',h3,h4⟩:=hg.2 j a.cells[j] (List.getElem?_eq_getElem (by omega))
  have:u'=u:=by
   have h5:(ρ y).cells[j]?=some u:=by rw [← e];simp at hj ⊢;first|exact ⟨hj,trivial⟩|exact hj|skip
   rw [h5] at h3;injection h3 with h3;exact h3.symm
  rw [← this]
  exact h4.oneCell h2
 have hrun:=run_storeCells_at P b (o' + off) el (ρ y).cells.toList 0 c w hh (by simpa using hfit) hone
 simp only [Nat.add_zero] at hrun
 have hget:=splice_get c.toList (ρ y).cells.toList (o' + off)
 generalize hc':(c.toList.take (o' + off)++(ρ y).cells.toList++c.toList.drop (o' + off + (ρ y).cells.toList.length)).toArray=c' at hrun
 have hc'g:∀ i,c'[i]?=if i < o' + off then c[i]? else if i < o' + off + (ρ y).cells.toList.length then (ρ y).cells.toList[i - (o' + off)]? else c[i]?:=by
  intro i
  rw [← hc']
  have:=hget i (by simpa using hfit)
  simpa using this
 have hc's:c'.size=c.size:=by rw [← hc'];simp;simp at hfit;omega
 obtain ⟨n1,n2,n3⟩:=hst.put (f:=f) (w':=w.setRow b c') (c':=c') (cs':=cs') hKr hp hh rfl rfl rfl (by simp) (fun b' hb'=>setRow_other w b b' c' hb') (setRow_heap w b c c' el (0,0) hh) hc's (fun j d hj=>by
  rw [hc'g]
  rcases hs.2.2 j d hj with ⟨h3,h4⟩|⟨h3,h4⟩
  ·have hlt:j - off < a.cells.length:=(List.getElem?_eq_some_iff.1 h4).1
   obtain ⟨h5,u,h6,h7⟩:=hg.2 _ d h4
   refine ⟨h5,u,?_,h7⟩
   rw [if_neg (by omega),if_pos (by omega),show o' + j - (o' + off)=j - off from by omega]
   simpa using h6
  ·obtain ⟨h5,u,h6,h7⟩:=hcs j d h4
   refine ⟨h5,u,?_,h7⟩
   rcases h3 with h3|h3
   ·rw [if_pos (by omega)];exact h6
   ·rw [if_neg (by omega),if_neg (by omega)];exact h6)
 have hsz:(ρ y).cells.size=size:=by rw [hg.1,hl]
 unfold OpW
 simp only [execOp,ho,Instr.storeAt,e,Instr.sureAddr,Sem.run_bind,Sem.run_pure,Result.andThen_ok,storeVar,ht.sizeOf,hsz,ne_eq,not_true,if_false,hrun]
 exact ⟨X,φ,n1,n2,.base _⟩
theorem LO.nilCheck {x:Operand} {r off:Nat} (ho:o.op=.nilCheck x) (hx:E x=some (.own r off)):LO P o E H f [] [] (.own r off) H :=
 .pure fun X φ w ρ hR=>by
  have h:=hR x (by simp [ho,Op.operands]) _ hx
  obtain ⟨b,o',hp,e,hbs0⟩:=h.own_inv
  exact ⟨ρ x,by simp [execOp,ho,e,Sem.run_pure],h⟩
theorem LO.nilCheck_imm {x:Operand} {cs:List AV} {off:Nat} (ho:o.op=.nilCheck x) (hx:E x=some (.imm cs off)):LO P o E H f [] [] (.imm cs off) H :=
 .pure fun X φ w ρ hR=>by
  have h:=hR x (by simp [ho,Op.operands]) _ hx
  obtain ⟨b,o',e,_⟩:=h.imm_inv
  exact ⟨ρ x,by simp [execOp,ho,e,Sem.run_pure],h⟩
theorem lay_st {fs:List (Nat × Nat × Nat)} (ht:TyOK P t (.st fs) size bytes zero):∃ flds:Array Field,P.underlying t=some (.struct flds)∧fs=flds.toList.map (fun f=>(f.offset,((P.info? f.type).map (·.size)).getD 0,f.type))∧∀ f∈flds.toList,(P.info? f.type).isSome=true:=by
 obtain ⟨d,inf,z,h1,h2,h3,h4,h5,h6,h7,h8,h9,h10⟩:=ht.spec
 cases d<;>simp only [layOf] at h2<;>try (cases h2;done)
 rename_i flds
 injection h2 with h2
 exact ⟨flds,h1,h2.symm,fun f hf=>List.all_eq_true.1 h10 f hf⟩
theorem lay_sl {e:Nat} (ht:TyOK P t (.sl e) size bytes zero):P.underlying t=some (.slice e):=by
 obtain ⟨d,inf,z,h1,h2,_⟩:=ht.spec
 cases d<;>simp only [layOf] at h2<;>try (cases h2;done)
 injection h2 with h2
 rw [h1,h2]
theorem lay_ar {n e:Nat} (ht:TyOK P t (.arr n e) size bytes zero):P.underlying t=some (.array n e):=by
 obtain ⟨d,inf,z,h1,h2,_⟩:=ht.spec
 cases d<;>simp only [layOf] at h2<;>try (cases h2;done)
 injection h2 with h2 h3
 rw [h1,h2,h3]
theorem lay_int {k:IntKind} (ht:TyOK P t (.int k) size bytes zero):P.underlying t=some (.int k):=by
 obtain ⟨d,inf,z,h1,h2,_⟩:=ht.spec
 cases d<;>simp only [layOf] at h2<;>try (cases h2;done)
 injection h2 with h2
 rw [h1,h2]
theorem lay_bool (ht:TyOK P t .bool size bytes zero):P.underlying t=some .bool:=by
 obtain ⟨d,inf,z,h1,h2,_⟩:=ht.spec
 cases d<;>simp only [layOf] at h2<;>try (cases h2;done)
 exact h1
theorem lay_str (ht:TyOK P t .str size bytes zero):P.underlying t=some .string:=by
 obtain ⟨d,inf,z,h1,h2,_⟩:=ht.spec
 cases d<;>simp only [layOf] at h2<;>try (cases h2;done)
 exact h1
theorem field_of {fs:List (Nat × Nat × Nat)} {flds:Array Field} {i d s ty:Nat} (h:fs=flds.toList.map (fun f=>(f.offset,((P.info? f.type).map (·.size)).getD 0,f.type))) (hall:∀ f∈flds.toList,(P.info? f.type).isSome=true) (hi:fs[i]?=some (d,s,ty)) :
 ∃ fl:Field,flds[i]?=some fl∧fl.offset=d∧fl.type=ty∧∀ w,(Go.sizeOf fl.type).run P w=.ok s w:=by
 subst h
 simp only [List.getElem?_map] at hi
 cases hf:flds.toList[i]? with
 | none=>rw [hf] at hi;cases hi
 | some fl =>
  rw [hf] at hi
  injection hi with hi
  simp only [Prod.mk.injEq] at hi
  obtain ⟨h1,h2,h3⟩:=hi
  obtain ⟨inf,hinf⟩:=Option.isSome_iff_exists.1 (hall fl (List.mem_of_getElem? hf))
  rw [hinf] at h2
  exact ⟨fl,by simpa using hf,h1,h3,fun w=>by simp [Go.sizeOf,typeInfo,hinf];simpa using h2⟩
theorem run_fieldAt {fs:List (Nat × Nat × Nat)} {i d s ty b off:Nat} {w:World} (ht:TyOK P t (.st fs) size bytes zero) (hi:fs[i]?=some (d,s,ty)) (h0:0 < s) :
 (Instr.fieldAt t (.pointer (some ⟨b,off,none⟩)) i).run P w=.ok (.pointer (some ⟨b,off + d,none⟩)) w:=by
 obtain ⟨flds,h1,h2,h3⟩:=lay_st ht
 obtain ⟨fl,h4,h5,h6,h7⟩:=field_of h2 h3 hi
 simp only [Instr.fieldAt,Sem.run_bind,run_underlying h1,Result.andThen_ok,h4,Instr.sureAddr,Sem.run_pure,fieldPlace,h7,if_neg (show ¬ s=0 by omega),Addr.add_lit,h5]
theorem LO.fieldAddr {x:Operand} {fs:List (Nat × Nat × Nat)} {i d s ty r off:Nat} (ho:o.op=.fieldAddr t x i) (hx:E x=some (.own r off)) (ht:TyOK P t (.st fs) size bytes zero) (hi:fs[i]?=some (d,s,ty)) (h0:0 < s):LO P o E H f [] [] (.own r (off + d)) H :=
 .pure fun X φ w ρ hR=>by
  obtain ⟨b,o',hp,e,hbs0⟩:=(hR x (by simp [ho,Op.operands]) _ hx).own_inv
  refine ⟨_,by simp only [execOp,ho,e,Sem.run_bind,run_fieldAt ht hi h0,Result.andThen_ok,Sem.run_pure];rfl,?_⟩
  rw [Nat.add_assoc]
  exact .own r (off + d) b o' hp hbs0
theorem LO.fieldAddr_imm {x:Operand} {fs:List (Nat × Nat × Nat)} {cs:List AV} {i d s ty off:Nat} (ho:o.op=.fieldAddr t x i) (hx:E x=some (.imm cs off)) (ht:TyOK P t (.st fs) size bytes zero) (hi:fs[i]?=some (d,s,ty)) (h0:0 < s):LO P o E H f [] [] (.imm cs (off + d)) H :=
 .pure fun X φ w ρ hR=>by
  obtain ⟨b,o',e,hb,hX,hc⟩:=(hR x (by simp [ho,Op.operands]) _ hx).imm_inv
  refine ⟨_,by simp only [execOp,ho,e,Sem.run_bind,run_fieldAt ht hi h0,Result.andThen_ok,Sem.run_pure];rfl,?_⟩
  rw [Nat.add_assoc]
  exact mk_imm (off + d) hb hX hc
theorem run_part {cs:Array Value} {off ty:Nat} {l':Lay} {s by':Nat} {z':List AV} {w:World} {u:Value} (ht:TyOK P ty l' s by' z') (hg:l'.agg=false) (hu:cs[off]?=some u):(Go.part ty cs off).run P w=.ok u w:=by
 simp [Go.part,ht.isAgg,hg,hu]
theorem run_part_agg {cs:Array Value} {off ty:Nat} {l':Lay} {s by':Nat} {z':List AV} {w:World} (ht:TyOK P ty l' s by' z') (hg:l'.agg=true):(Go.part ty cs off).run P w=.ok (.agg (cs.extract off (off + s))) w:=by
 simp [Go.part,ht.isAgg,hg,ht.sizeOf]
theorem Rep.agg_inv {X:Nat→Prop} {w:World} {φ:Em} {u:Value} {cs:List AV} (h:Rep X w φ u (.agg cs)):∃ us,u=.agg us∧Good X w φ us cs:=by
 cases h with
 | agg us _ hl h1 h =>
  refine ⟨us,rfl,hl,fun j c hj=>⟨h1 j c hj,?_⟩⟩
  have hlt:j < cs.length:=(List.getElem?_eq_some_iff.1 hj).1
  have hu:us[j]?=some us[j]:=by simp [hl,hlt]
  exact ⟨us[j],hu,h j _ c hu hj⟩
theorem Good.extract {X:Nat→Prop} {w:World} {φ:Em} {us:Array Value} {cs vs:List AV} {k n:Nat} (h:Good X w φ us cs) (hv:Tk cs k n vs):Rep X w φ (.agg (us.extract k (k + n))) (.agg vs):=by
 have hbound:vs=[]∨k + n≤us.size:=by
  rcases Nat.eq_zero_or_pos n with h0|h0
  ·left;exact List.eq_nil_of_length_eq_zero (by rw [hv.1,h0])
  ·right
   have hlt:n - 1 < vs.length:=by rw [hv.1];omega
   have h1:=hv.2 (n - 1) vs[n - 1] (List.getElem?_eq_getElem hlt)
   have h2:=(List.getElem?_eq_some_iff.1 h1).1
   rw [h.1]
   omega
 refine .agg _ _ ?_ (fun i c hi=>(h.2 _ c (hv.2 i c hi)).1) fun i u c hu hi=>?_
 ·rcases hbound with h0|h0
  ·have h1:=hv.1
   subst h0
   simp at h1
   subst h1
   simp [Array.size_extract];omega
  ·rw [hv.1,Array.size_extract]
   omega
 ·obtain ⟨_,u',h1,h2⟩:=h.2 _ c (hv.2 i c hi)
  rw [Array.getElem?_extract] at hu
  split at hu
  ·rw [h1] at hu
   injection hu with hu
   subst hu
   exact h2
  ·cases hu
theorem LO.field {x:Operand} {fs:List (Nat × Nat × Nat)} {cs:List AV} {i d s ty s' by':Nat} {l':Lay} {z':List AV} (ho:o.op=.field t x i) (hx:E x=some (.agg cs)) (ha:cs[d]?=some a) (ht:TyOK P t (.st fs) size bytes zero) (hi:fs[i]?=some (d,s,ty)) (he:TyOK P ty l' s' by' z') (hg:l'.agg=false) :
 LO P o E H f [] [] a H :=
 .pure fun X φ w ρ hR=>by
  obtain ⟨us,e,hgd⟩:=(hR x (by simp [ho,Op.operands]) _ hx).agg_inv
  obtain ⟨flds,h1,h2,h3⟩:=lay_st ht
  obtain ⟨fl,h4,h5,h6,h7⟩:=field_of h2 h3 hi
  obtain ⟨_,u,h8,h9⟩:=hgd.2 d a ha
  refine ⟨u,?_,h9⟩
  subst h5 h6
  simp only [execOp,ho,e,Instr.field,Sem.run_bind,run_underlying h1,Result.andThen_ok,h4,asAgg,Sem.run_pure,run_part he hg h8]
theorem LO.field_agg {x:Operand} {fs:List (Nat × Nat × Nat)} {cs vs:List AV} {i d s ty s' by':Nat} {l':Lay} {z':List AV} (ho:o.op=.field t x i) (hx:E x=some (.agg cs)) (ht:TyOK P t (.st fs) size bytes zero) (hi:fs[i]?=some (d,s,ty)) (he:TyOK P ty l' s' by' z') (hg:l'.agg=true) (hv:Tk cs d s' vs) :
 LO P o E H f [] [] (.agg vs) H :=
 .pure fun X φ w ρ hR=>by
  obtain ⟨us,e,hgd⟩:=(hR x (by simp [ho,Op.operands]) _ hx).agg_inv
  obtain ⟨flds,h1,h2,h3⟩:=lay_st ht
  obtain ⟨fl,h4,h5,h6,h7⟩:=field_of h2 h3 hi
  refine ⟨_,?_,hgd.extract hv⟩
  subst h5 h6
  simp only [execOp,ho,e,Instr.field,Sem.run_bind,run_underlying h1,Result.andThen_ok,h4,asAgg,Sem.run_pure,run_part_agg he hg]
end
section
variable {P:Program} {o:Oper} {E:Operand→Option AV} {H:Hp} {f:Nat} {v a:AV} {t:TypeId} {l:Lay} {size bytes:Nat} {zero:List AV}
theorem run_indexAt_sl {w:World} {e sz by':Nat} {l':Lay} {z':List AV} {k:IntKind} {j len cap b off:Nat} (ht:TyOK P t (.sl e) size bytes zero) (he:TyOK P e l' sz by' z') (hj:j < len) :
 (Instr.indexAt t (.slice (some ⟨b,off,none⟩) len cap) (.int k (j:Int))).run P w=.ok (.pointer (some ⟨b,off + j * sz,none⟩)) w:=by
 have h1:(0:Int)≤(j:Int)∧(j:Int) < (len:Int):=by omega
 simp only [Instr.indexAt,asIntOf,Sem.run_bind,Sem.run_pure,Result.andThen_ok,run_underlying (lay_sl ht),he.sizeOf,if_pos h1,Int.toNat_natCast,Addr.add_lit]
theorem run_indexAt_ar {w:World} {n e sz by':Nat} {l':Lay} {z':List AV} {k:IntKind} {j b off:Nat} (ht:TyOK P t (.arr n e) size bytes zero) (he:TyOK P e l' sz by' z') (hj:j < n) :
 (Instr.indexAt t (.pointer (some ⟨b,off,none⟩)) (.int k (j:Int))).run P w=.ok (.pointer (some ⟨b,off + j * sz,none⟩)) w:=by
 have h1:(0:Int)≤(j:Int)∧(j:Int) < (n:Int):=by omega
 simp only [Instr.indexAt,asIntOf,Sem.run_bind,Sem.run_pure,Result.andThen_ok,run_underlying (lay_ar ht),Instr.sureAddr,he.sizeOf,if_pos h1,Int.toNat_natCast,Addr.add_lit]
section
variable {x y:Operand} {e sz by':Nat} {l':Lay} {z':List AV} {k:IntKind} {i:Int} {j:Nat}
theorem LO.indexAddr {len r off sz0:Nat} (ho:o.op=.indexAddr t x y) (hx:E x=some (.osl r off len sz0)) (hy:E y=some (.base (.int k i))) (hi:i=(j:Int)) (ht:TyOK P t (.sl e) size bytes zero) (he:TyOK P e l' sz by' z') (hj:j < len) :
 LO P o E H f [] [] (.own r (off + j * sz)) H :=
 .pure fun X φ w ρ hR=>by
  obtain ⟨A,cap,e1,hc,h0|⟨b,o',hp,hA,hs⟩⟩:=(hR x (by simp [ho,Op.operands]) _ hx).osl_inv
  ·omega
  have e2:=(hR y (by simp [ho,Op.operands]) _ hy).base_eq
  subst hi hA
  refine ⟨_,by simp only [execOp,ho,e1,e2,Sem.run_bind,run_indexAt_sl ht he hj,Result.andThen_ok,Sem.run_pure];try rfl,?_⟩
  rw [Nat.add_assoc]
  exact .own r _ b o' hp (by omega)
theorem LO.indexAddr_isl {len:Nat} {cs:List AV} {a:AV} (ho:o.op=.indexAddr t x y) (hx:E x=some a) (ha:a.isl?=some (cs,len)) (hy:E y=some (.base (.int k i))) (hi:i=(j:Int)) (ht:TyOK P t (.sl e) size bytes zero) (he:TyOK P e l' sz by' z') (hj:j < len) :
 LO P o E H f [] [] (.imm cs (j * sz)) H :=
 .pure fun X φ w ρ hR=>by
  obtain ⟨A,cap,e1,hc,h0|⟨b,o',hA,hb,hX,hcs⟩⟩:=(hR x (by simp [ho,Op.operands]) _ hx).isl_inv ha
  ·omega
  have e2:=(hR y (by simp [ho,Op.operands]) _ hy).base_eq
  subst hi hA
  exact ⟨_,by simp only [execOp,ho,e1,e2,Sem.run_bind,run_indexAt_sl ht he hj,Result.andThen_ok,Sem.run_pure];try rfl,mk_imm _ hb hX hcs⟩
theorem LO.indexAddr_ar {n r off:Nat} (ho:o.op=.indexAddr t x y) (hx:E x=some (.own r off)) (hy:E y=some (.base (.int k i))) (hi:i=(j:Int)) (ht:TyOK P t (.arr n e) size bytes zero) (he:TyOK P e l' sz by' z') (hj:j < n) :
 LO P o E H f [] [] (.own r (off + j * sz)) H :=
 .pure fun X φ w ρ hR=>by
  obtain ⟨b,o',hp,e1,hbs0⟩:=(hR x (by simp [ho,Op.operands]) _ hx).own_inv
  have e2:=(hR y (by simp [ho,Op.operands]) _ hy).base_eq
  subst hi
  refine ⟨_,by simp only [execOp,ho,e1,e2,Sem.run_bind,run_indexAt_ar ht he hj,Result.andThen_ok,Sem.run_pure];try rfl,?_⟩
  rw [Nat.add_assoc]
  exact .own r _ b o' hp (by omega)
theorem LO.indexAddr_imm {n off:Nat} {cs:List AV} (ho:o.op=.indexAddr t x y) (hx:E x=some (.imm cs off)) (hy:E y=some (.base (.int k i))) (hi:i=(j:Int)) (ht:TyOK P t (.arr n e) size bytes zero) (he:TyOK P e l' sz by' z') (hj:j < n) :
 LO P o E H f [] [] (.imm cs (off + j * sz)) H :=
 .pure fun X φ w ρ hR=>by
  obtain ⟨b,o',e1,hb,hX,hcs⟩:=(hR x (by simp [ho,Op.operands]) _ hx).imm_inv
  have e2:=(hR y (by simp [ho,Op.operands]) _ hy).base_eq
  subst hi
  refine ⟨_,by simp only [execOp,ho,e1,e2,Sem.run_bind,run_indexAt_ar ht he hj,Result.andThen_ok,Sem.run_pure];try rfl,?_⟩
  rw [Nat.add_assoc]
  exact mk_imm _ hb hX hcs
theorem LO.index {n:Nat} {cs:List AV} (ho:o.op=.index t x y) (hx:E x=some (.agg cs)) (hy:E y=some (.base (.int k i))) (hi:i=(j:Int)) (ht:TyOK P t (.arr n e) size bytes zero) (he:TyOK P e l' sz by' z') (hg:l'.agg=false) (hj:j < n) (ha:cs[j * sz]?=some a) :
 LO P o E H f [] [] a H :=
 .pure fun X φ w ρ hR=>by
  obtain ⟨us,e1,hgd⟩:=(hR x (by simp [ho,Op.operands]) _ hx).agg_inv
  have e2:=(hR y (by simp [ho,Op.operands]) _ hy).base_eq
  obtain ⟨_,u,h8,h9⟩:=hgd.2 _ a ha
  subst hi
  have h1:(0:Int)≤(j:Int)∧(j:Int) < (n:Int):=by omega
  exact ⟨u,by simp only [execOp,ho,e1,e2,Instr.index,asIntOf,Sem.run_bind,Sem.run_pure,Result.andThen_ok,run_underlying (lay_ar ht),if_pos h1,he.sizeOf,Int.toNat_natCast,run_part he hg h8],h9⟩
theorem LO.index_agg {n:Nat} {cs vs:List AV} (ho:o.op=.index t x y) (hx:E x=some (.agg cs)) (hy:E y=some (.base (.int k i))) (hi:i=(j:Int)) (ht:TyOK P t (.arr n e) size bytes zero) (he:TyOK P e l' sz by' z') (hg:l'.agg=true) (hj:j < n) (hv:Tk cs (j * sz) sz vs) :
 LO P o E H f [] [] (.agg vs) H :=
 .pure fun X φ w ρ hR=>by
  obtain ⟨us,e1,hgd⟩:=(hR x (by simp [ho,Op.operands]) _ hx).agg_inv
  have e2:=(hR y (by simp [ho,Op.operands]) _ hy).base_eq
  subst hi
  have h1:(0:Int)≤(j:Int)∧(j:Int) < (n:Int):=by omega
  exact ⟨_,by simp only [execOp,ho,e1,e2,Instr.index,asIntOf,Sem.run_bind,Sem.run_pure,Result.andThen_ok,run_underlying (lay_ar ht),if_pos h1,he.sizeOf,Int.toNat_natCast,run_part_agg he hg];try rfl,hgd.extract hv⟩
def Bnd (E:Operand→Option AV) (x:Option Operand) (dflt n:Nat):Prop:=(x=none∧n=dflt)∨∃ y k,x=some y∧E y=some (.base (.int k (n:Int)))
theorem Bnd.no {E:Operand→Option AV} {d:Nat}:Bnd E none d d:=.inl ⟨rfl,rfl⟩
theorem Bnd.at {E:Operand→Option AV} {y:Operand} {d n:Nat} {k:IntKind} {i:Int} (h:E y=some (.base (.int k i))) (hi:i=(n:Int)):Bnd E (some y) d n:=.inr ⟨y,k,rfl,by rw [h,hi]⟩
theorem run_slice {w:World} {ρ:Operand→Value} {lo hi:Option Operand} {A:Option Addr} {len cap m n:Nat} (ht:TyOK P t (.sl e) size bytes zero) (he:TyOK P e l' sz by' z')
 (hl:(lo=none∧m=0)∨∃ y k,lo=some y∧ρ y=.int k (m:Int)) (hh:(hi=none∧n=len)∨∃ y k,hi=some y∧ρ y=.int k (n:Int)) (hmn:m≤n) (hn:n≤len) (hc:len≤cap) :
 (Instr.sliceAt t (.slice A len cap) (lo.map ρ) (hi.map ρ) (none:Option Value)).run P w=.ok (.slice (if cap=m then A else A.map (·.add (m * sz))) (n - m) (cap - m)) w:=by
 have h1:(0:Int)≤(n:Int)∧(n:Int)≤(cap:Int):=by omega
 have h2:(0:Int)≤(m:Int)∧(m:Int)≤(n:Int):=by omega
 have hb:(Instr.sliceBounds true len cap (lo.map ρ) (hi.map ρ) none).run P w=.ok (m,n,cap) w:=by
  rcases hl with ⟨rfl,rfl⟩|⟨y,k,rfl,ey⟩<;>rcases hh with ⟨rfl,rfl⟩|⟨y',k',rfl,ey'⟩
  ·simp [Instr.sliceBounds]
  ·simp [Instr.sliceBounds,Instr.sliceBound,asIntOf,ey',show n≤cap by omega]
  ·simp [Instr.sliceBounds,Instr.sliceBound,asIntOf,ey,hmn]
  ·simp [Instr.sliceBounds,Instr.sliceBound,asIntOf,ey,ey',hmn,show n≤cap by omega]
 simp only [Instr.sliceAt,Instr.slice,Sem.run_bind,run_underlying (lay_sl ht),Result.andThen_ok,hb,he.sizeOf,Sem.run_pure]
theorem bnd_val {E:Operand→Option AV} {X:Nat→Prop} {w:World} {φ:Em} {ρ:Operand→Value} {x:Option Operand} {d n:Nat} (h:Bnd E x d n) (hR:∀ y,x=some y→∀ a,E y=some a→Rep X w φ (ρ y) a):(x=none∧n=d)∨∃ y k,x=some y∧ρ y=.int k (n:Int):=by
 rcases h with h|⟨y,k,rfl,h⟩
 ·exact .inl h
 ·exact .inr ⟨y,k,rfl,(hR y rfl _ h).base_eq⟩
theorem LO.slice {lo hi:Option Operand} {r off len m n:Nat} (ho:o.op=.slice t x lo hi none) (hx:E x=some (.osl r off len sz)) (hl:Bnd E lo 0 m) (hh:Bnd E hi len n) (hmn:m≤n) (hn:n≤len) (ht:TyOK P t (.sl e) size bytes zero) (he:TyOK P e l' sz by' z') :
 LO P o E H f [] [] (.osl r (off + m * sz) (n - m) sz) H :=
 .pure fun X φ w ρ hR=>by
  obtain ⟨A,cap,e1,hc,hcase⟩:=(hR x (by simp [ho,Op.operands]) _ hx).osl_inv
  have hl':=bnd_val (ρ:=ρ) hl fun y hy a ha=>hR y (by simp [ho,Op.operands,hy]) a ha
  have hh':=bnd_val (ρ:=ρ) hh fun y hy a ha=>hR y (by simp [ho,Op.operands,hy]) a ha
  refine ⟨_,by simp only [execOp,ho,e1,Sem.run_bind,Option.map_none,run_slice (A:=A) (w:=w) ht he hl' hh' hmn hn hc,Result.andThen_ok,Sem.run_pure];try rfl,?_⟩
  rcases hcase with ⟨h1,h2⟩|⟨b,o',hp,rfl,hs⟩
  ·have e3:n - m=0:=by omega
   have e4:cap - m=0:=by omega
   rw [e3,e4]
   exact .osl0 _ _ _ _
  ·by_cases hcm:cap=m
   ·have e3:n - m=0:=by omega
    have e4:cap - m=0:=by omega
    rw [e3,e4]
    exact .osl0 _ _ _ _
   ·rw [if_neg hcm]
    simp only [Option.map_some,Addr.add_lit]
    rw [Nat.add_assoc]
    refine .osl r _ _ sz b o' _ hp (by omega) ?_
    have:m * sz + (cap - m) * sz=cap * sz:=by rw [← Nat.add_mul];congr 1;omega
    omega
theorem LO.slice_isl {lo hi:Option Operand} {a:AV} {cs vs:List AV} {len m n:Nat} (ho:o.op=.slice t x lo hi none) (hx:E x=some a) (ha:a.isl?=some (cs,len)) (hl:Bnd E lo 0 m) (hh:Bnd E hi len n) (hmn:m≤n) (hn:n≤len) (ht:TyOK P t (.sl e) size bytes zero) (he:TyOK P e l' sz by' z') (hv:Tk cs (m * sz) ((n - m) * sz) vs) :
 LO P o E H f [] [] (.isl vs (n - m)) H :=
 .pure fun X φ w ρ hR=>by
  obtain ⟨A,cap,e1,hc,hcase⟩:=(hR x (by simp [ho,Op.operands]) _ hx).isl_inv ha
  have hl':=bnd_val (ρ:=ρ) hl fun y hy a ha=>hR y (by simp [ho,Op.operands,hy]) a ha
  have hh':=bnd_val (ρ:=ρ) hh fun y hy a ha=>hR y (by simp [ho,Op.operands,hy]) a ha
  refine ⟨_,by simp only [execOp,ho,e1,Sem.run_bind,Option.map_none,run_slice (A:=A) (w:=w) ht he hl' hh' hmn hn hc,Result.andThen_ok,Sem.run_pure];try rfl,?_⟩
  rcases Nat.eq_zero_or_pos (n - m) with h0|h0
  ·have hvs:vs=[]:=List.eq_nil_of_length_eq_zero (by rw [hv.1,h0];simp)
   rw [h0,hvs]
   exact .isl0 _ _
  ·rcases hcase with ⟨h1,h2⟩|⟨b,o',rfl,hb,hX,hcs⟩
   ·omega
   ·rw [if_neg (by omega)]
    simp only [Option.map_some,Addr.add_lit]
    refine mk_isl (by omega) hb hX fun i c hi=>?_
    obtain ⟨h3,u,h4,h5⟩:=hcs _ c (hv.2 i c hi)
    exact ⟨h3,u,by rw [Nat.add_assoc];exact h4,h5⟩
theorem LO.len {len r off:Nat} (ho:o.op=.call { callee:=.builtin .len,args:=#[x],argTypes:=#[t] }) (hx:E x=some (.osl r off len sz)) (ht:TyOK P t (.sl e) size bytes zero):LO P o E H f [] [] (.base (.int .i64 (len:Int))) H :=
 .pure fun X φ w ρ hR=>by
  obtain ⟨A,cap,e1,_⟩:=(hR x (by simp [ho,Op.operands,Call.operands]) _ hx).osl_inv
  exact ⟨_,by simp [execOp,ho,resolve,invoke,Go.builtin,Builtin.len_,e1,run_underlying (lay_sl ht),goInt];try rfl,.base _⟩
theorem LO.len_isl {a:AV} {cs:List AV} {len:Nat} (ho:o.op=.call { callee:=.builtin .len,args:=#[x],argTypes:=#[t] }) (hx:E x=some a) (ha:a.isl?=some (cs,len)) (ht:TyOK P t (.sl e) size bytes zero):LO P o E H f [] [] (.base (.int .i64 (len:Int))) H :=
 .pure fun X φ w ρ hR=>by
  obtain ⟨A,cap,e1,_⟩:=(hR x (by simp [ho,Op.operands,Call.operands]) _ hx).isl_inv ha
  exact ⟨_,by simp [execOp,ho,resolve,invoke,Go.builtin,Builtin.len_,e1,run_underlying (lay_sl ht),goInt];try rfl,.base _⟩
theorem LO.len_str {s:ByteArray} (ho:o.op=.call { callee:=.builtin .len,args:=#[x],argTypes:=#[t] }) (hx:E x=some (.base (.string s))) (ht:TyOK P t .str size bytes zero):LO P o E H f [] [] (.base (.int .i64 (s.size:Int))) H :=
 .pure fun X φ w ρ hR=>by
  have e1:=(hR x (by simp [ho,Op.operands,Call.operands]) _ hx).base_eq
  exact ⟨_,by simp [execOp,ho,resolve,invoke,Go.builtin,Builtin.len_,e1,run_underlying (lay_str ht),goInt];try rfl,.base _⟩
theorem LO.min {T':Array TypeId} {m n:Int} (ho:o.op=.call { callee:=.builtin .min,args:=#[x,y],argTypes:=T' }) (hx:E x=some (.base (.int k m))) (hy:E y=some (.base (.int k n))):LO P o E H f [] [] (.base (.int k (if n < m then n else m))) H :=
 .pure fun X φ w ρ hR=>by
  have e1:=(hR x (by simp [ho,Op.operands,Call.operands]) _ hx).base_eq
  have e2:=(hR y (by simp [ho,Op.operands,Call.operands]) _ hy).base_eq
  exact ⟨_,by simp [execOp,ho,resolve,invoke,Go.builtin,Builtin.min_,Builtin.min2,e1,e2];try rfl,.base _⟩
theorem LO.max {T':Array TypeId} {m n:Int} (ho:o.op=.call { callee:=.builtin .max,args:=#[x,y],argTypes:=T' }) (hx:E x=some (.base (.int k m))) (hy:E y=some (.base (.int k n))):LO P o E H f [] [] (.base (.int k (if m < n then n else m))) H :=
 .pure fun X φ w ρ hR=>by
  have e1:=(hR x (by simp [ho,Op.operands,Call.operands]) _ hx).base_eq
  have e2:=(hR y (by simp [ho,Op.operands,Call.operands]) _ hy).base_eq
  exact ⟨_,by simp [execOp,ho,resolve,invoke,Go.builtin,Builtin.max_,Builtin.max2,e1,e2];try rfl,.base _⟩
theorem LO.conv {s:TypeId} {ls:Lay} {ss sb:Nat} {sz':List AV} {k':IntKind} (ho:o.op=.convert s t x) (hx:E x=some (.base (.int k i))) (hs:TyOK P s ls ss sb sz') (ht:TyOK P t (.int k') size bytes zero):LO P o E H f [] [] (.base (.int k' (k'.wrap i))) H :=
 .pure fun X φ w ρ hR=>by
  have e1:=(hR x (by simp [ho,Op.operands]) _ hx).base_eq
  obtain ⟨d,_,_,h1,_⟩:=hs.spec
  exact ⟨_,by
   simp only [execOp,ho,e1,Go.convert,Sem.run_bind,run_underlying h1,run_underlying (lay_int ht),Result.andThen_ok,Conv.intToInt,Sem.run_pure]
   try first|rfl|(cases d<;>rfl),.base _⟩
theorem LO.conv_in {s:TypeId} {ls:Lay} {ss sb:Nat} {sz':List AV} {k':IntKind} (ho:o.op=.convert s t x) (hx:E x=some (.base (.int k i))) (hs:TyOK P s ls ss sb sz') (ht:TyOK P t (.int k') size bytes zero) (hw:k'.wrap i=i):LO P o E H f [] [] (.base (.int k' i)) H:=by
 have:=LO.conv (P:=P) (H:=H) (f:=f) ho hx hs ht
 rwa [hw] at this
theorem LO.eql_bool {ty:TypeId} {b b':Bool} (ho:o.op=.binOp .eql t x y ty) (hx:E x=some (.base (.bool b))) (hy:E y=some (.base (.bool b'))) (ht:TyOK P t .bool size bytes zero):LO P o E H f [] [] (.base (.bool (b == b'))) H :=
 .bin ho hx hy fun w=>by simp [eqGuard,Go.binOp,run_equal_bool (P:=P) (w:=w) t b b' (lay_bool ht)]
theorem LO.neq_bool {ty:TypeId} {b b':Bool} (ho:o.op=.binOp .neq t x y ty) (hx:E x=some (.base (.bool b))) (hy:E y=some (.base (.bool b'))) (ht:TyOK P t .bool size bytes zero):LO P o E H f [] [] (.base (.bool (!(b == b')))) H :=
 .bin ho hx hy fun w=>by simp [eqGuard,Go.binOp,run_equal_bool (P:=P) (w:=w) t b b' (lay_bool ht)]
theorem LO.eql_str {ty:TypeId} {b b':ByteArray} (ho:o.op=.binOp .eql t x y ty) (hx:E x=some (.base (.string b))) (hy:E y=some (.base (.string b'))):LO P o E H f [] [] (.base (.bool (b.toList == b'.toList))) H :=
 .bin ho hx hy fun w=>by simp [eqGuard,Go.binOp,Op.stringOp]
theorem LO.neq_str {ty:TypeId} {b b':ByteArray} (ho:o.op=.binOp .neq t x y ty) (hx:E x=some (.base (.string b))) (hy:E y=some (.base (.string b'))):LO P o E H f [] [] (.base (.bool (!(b.toList == b'.toList)))) H :=
 .bin ho hx hy fun w=>by simp [eqGuard,Go.binOp,Op.stringOp]
end
theorem LO.makeSlice {x y:Operand} {e sz by' n m:Nat} {l':Lay} {z':List AV} {k k':IntKind} {i i':Int} (ho:o.op=.makeSlice t x y) (hx:E x=some (.base (.int k i))) (hy:E y=some (.base (.int k' i'))) (hin:i=(n:Int)) (him:i'=(m:Int)) (ht:TyOK P t (.sl e) size bytes zero) (he:TyOK P e l' sz by' z') (h0:0 < sz)
 (hnm:n≤m) (hm:m≤9223372036854775807) (hb:m * by'≤281474976710656):LO P o E H f [] [f] (.osl f 0 n sz) (up H f (some (zerosL m z'))):=by
 subst hin him
 obtain ⟨z,hz,hzs,hzm,hzl,h1⟩:=he.zeroV
 refine .mk _ fun X φ w ρ hR=>?_
 have e1:=(hR x (by simp [ho,Op.operands]) _ hx).base_eq
 have e2:=(hR y (by simp [ho,Op.operands]) _ hy).base_eq
 have hg:=good_zeros (X:=X) (w:=w) (φ:=φ) m hzm h1 (by omega)
 rw [hzl] at hg
 obtain ⟨inf,hi1,hi2⟩:=he.info w
 have w1:IntKind.i64.wrap (n:Int)=n:=IntWalk.i64_in _ (by omega)
 have w2:IntKind.i64.wrap (m:Int)=m:=IntWalk.i64_in _ (by omega)
 have hbz:bsz (w.alloc (.cells ((Array.range (m * sz)).map (z.cells[· % z.cells.size]!)) e)) w.heap.size=m * sz + 1:=by
  rw [bsz_of (c:=(Array.range (m * sz)).map (z.cells[· % z.cells.size]!)) (e:=e) (f:=(0,0)) (heap_alloc_new w _)]
  simp
 have hsz0:m * sz=0→(Array.range (m * sz)).map (fun x=>z.cells[x % z.cells.size]!)=#[]:=fun h=>by rw [h];simp
 refine ⟨_,e,.slice (some ⟨w.heap.size,0,none⟩) n m,w.alloc (.cells ((Array.range (m * sz)).map (z.cells[· % z.cells.size]!)) e),?_,rfl,rfl,rfl,rfl,hg.2,fun X' φ' hf' _=>?_⟩
 ·have ht1:¬ ((by':Int) * (m:Int) > 281474976710656):=by
   have:((m * by':Nat):Int)≤281474976710656:=by omega
   rw [Nat.mul_comm] at this
   simpa using this
  have hmark:∀ q,(askRoom q).run P w=.ok () w:=fun q=>by unfold askRoom;split<;>simp [mark,Sem.run]
  have c1:¬ ((m:Int) < 0):=by omega
  have c2:¬ ((n:Int) < 0):=by omega
  have c3:¬ ((n:Int) > (m:Int)):=by omega
  have hto:(m:Int).toNat=m:=Int.toNat_natCast m
  simp only [execOp,ho,e1,e2,Instr.makeSlice,Sem.run_bind,run_underlying (lay_sl ht),Result.andThen_ok,asInt,asIntOf,Sem.run_pure,hi1,hi2,w1,w2]
  have hcond:(((decide ((m:Int) < 0) || decide ((by':Int) * (m:Int) > 2 ^ 48)) || decide ((n:Int) < 0)) || decide ((n:Int) > (m:Int)))=false:=by
   simp [c1,c2,c3]
   omega
  rw [if_neg (by simp only [hcond];simp)]
  simp only [Sem.run_bind,hmark,Result.andThen_ok,he.sizeOf,hto]
  by_cases hmz:m * sz=0
  ·rw [if_pos hmz]
   have:=hsz0 hmz
   simp only [Sem.run_pure,Result.andThen_ok,newRow,newObj,Sem.run_bind,Int.toNat_natCast]
   rw [hmz]
   have hr:∀ g:Nat→Value,(Array.range 0).map g=#[]:=fun g=>by simp
   simp only [hr]
   simp [Sem.run]
  ·rw [if_neg hmz]
   simp [hz,newRow,newObj,Sem.run]
 ·have:=Rep.osl (X:=X') (w:=w.alloc (.cells ((Array.range (m * sz)).map (z.cells[· % z.cells.size]!)) e)) (φ:=φ') f 0 n sz w.heap.size 0 m hf' hnm (by rw [hbz];omega)
  exact this
end
section
variable {X:Nat→Prop} {w:World} {φ:Em}
theorem St.phantom {K:Hp} {f:Nat} (hst:St X φ K w) (hf:φ f=none):Nxt K (·=f) X φ w (up K f (some [])) X φ w∧St X φ (up K f (some [])) w:=by
 refine ⟨{ Nxt.refl K (·=f) X φ w with lv:=fun r cs b o h1 h2=>?_ },fun r cs hr=>?_,fun r1 r2 c1 c2 b o1 o2 h1 h2 h3 h4=>?_,hst.gl⟩
 ·by_cases h:r=f
  ·subst h;rw [hf] at h2;cases h2
  ·rw [up_ne h] at h1;exact .inr ⟨r,cs,o,h1,h2⟩
 ·by_cases h:r=f
  ·subst h
   rw [up_at] at hr
   injection hr with hr
   exact .inl ⟨hr.symm,hf⟩
  ·rw [up_ne h] at hr;exact hst.1 r cs hr
 ·have n1:r1≠f:=fun h=>by rw [h,hf] at h3;cases h3
  have n2:r2≠f:=fun h=>by rw [h,hf] at h4;cases h4
  rw [up_ne n1] at h1
  rw [up_ne n2] at h2
  exact hst.2 r1 r2 c1 c2 b o1 o2 h1 h2 h3 h4
theorem St.reuse {K:Hp} {r f b o o':Nat} {cs cs':List AV} {w':World} {c c':Array Value} {e:TypeId} (hst:St X φ K w) (hr:K r=some cs) (hp:φ r=some (b,o)) (hh:w.heap[b]?=some (.cells c e (0,0))) (hf:φ f=none)
 (hos:w'.os=w.os) (htp:w'.tape=w.tape) (hout:w'.output=w.output) (hsz:w'.heap.size=w.heap.size) (hoth:∀ b',b'≠b→w'.heap[b']?=w.heap[b']?) (hb:w'.heap[b]?=some (.cells c' e (0,0))) (hc:c'.size=c.size)
 (hcs:∀ (j:Nat) a,cs'[j]?=some a→a.one=true∧∃ u,c'[o' + j]?=some u∧Rep X w φ u a) :
 let φ':Em:=fun x=>if x=f then some (b,o') else φ x
 Nxt K (·=f) X φ w (up (up K r none) f (some cs')) X φ' w'∧St X φ' (up (up K r none) f (some cs')) w'∧φ' f=some (b,o'):=by
 intro φ'
 have hrf:r≠f:=fun h=>by rw [h,hf] at hp;cases hp
 obtain ⟨hX,hB0⟩:=hst.blk hr hp
 have hbs:∀ b',bst w' b'=bst w b':=by
  intro b'
  by_cases h:b'=b
  ·subst h;unfold bst;rw [bsz_of hb,bsz_of hh,hc];unfold bel;rw [hb,hh]
  ·unfold bst bsz bel;rw [hoth b' h]
 have hφ:∀ x y,φ x=some y→φ' x=some y:=fun x y h=>by
  show (if x=f then _ else _)=_
  rw [if_neg (fun e=>by rw [e,hf] at h;cases h)]
  exact h
 have hφf:φ' f=some (b,o'):=if_pos rfl
 have hφn:∀ x,x≠f→φ' x=φ x:=fun x h=>if_neg h
 have hkeep:∀ v a,Rep X w φ v a→Rep X w' φ' v a:=fun v a h =>
  h.keep (Nat.le_of_eq hsz.symm) (fun b' _ hx=>hoth b' (fun e=>hx (e ▸ hX))) (fun b' _=>hbs b') (fun _ _ h=>h) hφ
 have hold:∀ x cs1,up (up K r none) f (some cs') x=some cs1→x≠f→x≠r∧K x=some cs1:=by
  intro x cs1 h hx
  rw [up_ne hx] at h
  by_cases hxr:x=r
  ·subst hxr;rw [up_at] at h;cases h
  ·rw [up_ne hxr] at h;exact ⟨hxr,h⟩
 refine ⟨⟨hos,htp,hout,Nat.le_of_eq hsz.symm,fun b' _ hn=>hoth b' (fun e=>hn r cs o hr (by rw [hp,e])),fun b' _=>hbs b',fun _ _ h=>h,fun _ _ h=>.inl h,fun x h=>hφn x h,fun x cs1 b' o1 h1 h2=>?_⟩,⟨fun x cs1 h1=>?_,fun r1 r2 c1 c2 b' o1 o2 h1 h2 h3 h4=>?_,hst.gl.keep (Nat.le_of_eq hsz.symm) (fun b' _ hx=>hoth b' (fun e=>hx (e ▸ hX))) (fun _ _ h=>h)⟩,hφf⟩
 ·by_cases hx:x=f
  ·subst hx
   rw [hφf] at h2
   injection h2 with h2
   injection h2 with h2 _
   exact .inr ⟨r,cs,o,hr,by rw [hp,h2]⟩
  ·obtain ⟨_,h3⟩:=hold x cs1 h1 hx
   rw [hφn x hx] at h2
   exact .inr ⟨x,cs1,o1,h3,h2⟩
 ·by_cases hx:x=f
  ·subst hx
   rw [up_at] at h1
   injection h1 with h1
   subst h1
   refine .inr ⟨b,o',hφf,hX,.cells c' e hb fun j a hj=>?_⟩
   obtain ⟨h5,u,h6,h7⟩:=hcs j a hj
   exact ⟨h5,u,h6,hkeep _ _ h7⟩
  ·obtain ⟨hxr,h3⟩:=hold x cs1 h1 hx
   obtain ⟨g1,g2⟩|⟨b',o1,g2,g3,g4⟩:=hst.1 x cs1 h3
   ·exact .inl ⟨g1,by rw [hφn x hx];exact g2⟩
   ·have hne:b'≠b:=fun e=>hxr (hst.2 x r cs1 cs b' o1 o h3 hr g2 (by rw [hp,e]))
    exact .inr ⟨b',o1,by rw [hφn x hx];exact g2,g3,g4.keep (hoth b' hne) hkeep⟩
 ·by_cases hx1:r1=f
  ·by_cases hx2:r2=f
   ·rw [hx1,hx2]
   ·exfalso
    obtain ⟨hxr,g1⟩:=hold r2 c2 h2 hx2
    rw [hφn r2 hx2] at h4
    rw [hx1,hφf] at h3
    injection h3 with h3
    injection h3 with h3 _
    exact hxr (hst.2 r2 r c2 cs b' o2 o g1 hr h4 (by rw [hp,h3]))
  ·obtain ⟨hxr,g1⟩:=hold r1 c1 h1 hx1
   rw [hφn r1 hx1] at h3
   by_cases hx2:r2=f
   ·exfalso
    rw [hx2,hφf] at h4
    injection h4 with h4
    injection h4 with h4 _
    exact hxr (hst.2 r1 r c1 cs b' o1 o g1 hr h3 (by rw [hp,h4]))
   ·obtain ⟨_,g2⟩:=hold r2 c2 h2 hx2
    rw [hφn r2 hx2] at h4
    exact hst.2 r1 r2 c1 c2 b' o1 o2 g1 g2 h3 h4
end
def SrcAV (E:Operand→Option AV) (H:Hp) (y:Operand) (sz m:Nat) (ns:List AV) (rd:List Nat):Prop :=
 (∃ a,E y=some a∧a.isl?=some (ns,m)∧ns.length=m * sz∧rd=[])∨(∃ r off cs,E y=some (.osl r off m sz)∧H r=some cs∧Tk cs off (m * sz) ns∧rd=[r])
theorem SrcAV.isl {E:Operand→Option AV} {H:Hp} {y:Operand} {sz m:Nat} {a:AV} {ns:List AV} (h:E y=some a) (ha:a.isl?=some (ns,m)) (hl:ns.length=m * sz):SrcAV E H y sz m ns []:=.inl ⟨a,h,ha,hl,rfl⟩
theorem SrcAV.own {E:Operand→Option AV} {H:Hp} {y:Operand} {sz m r off:Nat} {cs ns:List AV} (h:E y=some (.osl r off m sz)) (hH:H r=some cs) (hv:Tk cs off (m * sz) ns):SrcAV E H y sz m ns [r]:=.inr ⟨r,off,cs,h,hH,hv,rfl⟩
section
variable {P:Program} {X:Nat→Prop} {w:World} {φ:Em}
theorem SrcAV.src {E:Operand→Option AV} {H K:Hp} {y:Operand} {sz m:Nat} {ns:List AV} {rd:List Nat} {u:Value} {tx ex:TypeId} (h:SrcAV E H y sz m ns rd) (hK:∀ r,r∈rd→K r=H r) (hst:St X φ K w) (hR:∀ a,E y=some a→Rep X w φ u a) (hk:P.underlying tx=some (.slice ex)) (_h0:0 < sz) :
 ∃ news:List Value,Src P sz tx u m news w∧news.length=ns.length∧∀ (j:Nat) c,ns[j]?=some c→c.one=true∧∃ x,news[j]?=some x∧Rep X w φ x c:=by
 have key:∀ (A:Option Addr) (cap:Nat),((ns=[]∧m=0)∨∃ b o,A=some ⟨b,o,none⟩∧∀ (j:Nat) c,ns[j]?=some c→c.one=true∧∃ x,w.cell? ⟨b,o + j,none⟩=some x∧Rep X w φ x c)→ns.length=m * sz→u=.slice A m cap →
  ∃ news:List Value,Src P sz tx u m news w∧news.length=ns.length∧∀ (j:Nat) c,ns[j]?=some c→c.one=true∧∃ x,news[j]?=some x∧Rep X w φ x c:=by
  intro A cap hc hl hu
  subst hu
  rcases hc with ⟨rfl,rfl⟩|⟨b,o,rfl,hcs⟩
  ·refine ⟨[],?_,rfl,fun j c hj=>by simp at hj⟩
   cases A with
   | none=>exact Src.ofNil w hk cap
   | some ad=>exact Src.ofSlice w hk ad 0 cap [] (by simp) (fun j u hj=>by simp at hj) (fun u hu=>by cases hu)
  ·refine ⟨(List.range ns.length).map fun j=>(w.cell? ⟨b,o + j,none⟩).getD undef,Src.ofSlice w hk _ m cap _ (by simp [hl]) (fun j x hj=>?_) (fun x hx=>?_),by simp,fun j c hj=>?_⟩
   ·rw [Addr.add_lit]
    have hlt:j < ns.length:=by have:=(List.getElem?_eq_some_iff.1 hj).1;simpa using this
    obtain ⟨_,x',h1,_⟩:=hcs j ns[j] (List.getElem?_eq_getElem hlt)
    simp [hlt,h1] at hj
    rw [h1,hj]
   ·obtain ⟨j,hj,e⟩:=List.mem_map.1 hx
    have hlt:j < ns.length:=List.mem_range.1 hj
    obtain ⟨h2,x',h1,h3⟩:=hcs j ns[j] (List.getElem?_eq_getElem hlt)
    rw [h1] at e
    simp at e
    rw [← e]
    exact h3.oneCell h2
   ·have hlt:j < ns.length:=(List.getElem?_eq_some_iff.1 hj).1
    obtain ⟨h2,x',h1,h3⟩:=hcs j c hj
    exact ⟨h2,x',by simp [hlt,h1],h3⟩
 rcases h with ⟨a,hy,ha,hl,rfl⟩|⟨r,off,cs,hy,hH,hv,rfl⟩
 ·obtain ⟨A,cap,hu,hc,hcase⟩:=(hR a hy).isl_inv ha
  refine key A cap ?_ hl hu
  rcases hcase with h|⟨b,o,hA,hb,hX,hcs⟩
  ·exact .inl h
  ·exact .inr ⟨b,o,hA,fun j c hj=>by obtain ⟨h1,x,h2,h3⟩:=hcs j c hj;exact ⟨h1,x,h2,h3 φ⟩⟩
 ·obtain ⟨A,cap,hu,hc,hcase⟩:=(hR _ hy).osl_inv
  refine key A cap ?_ hv.1 hu
  rcases hcase with ⟨h1,h2⟩|⟨b,o,hp,hA,hs⟩
  ·exact .inl ⟨List.eq_nil_of_length_eq_zero (by rw [hv.1,h1];simp),h1⟩
  ·obtain ⟨c,e,hX,hh,hcs⟩:=hst.cells ((hK r (by simp)).trans hH) hp (by omega)
   refine .inr ⟨b,o + off,hA,fun j d hj=>?_⟩
   obtain ⟨h1,x,h2,h3⟩:=hcs _ d (hv.2 j d hj)
   exact ⟨h1,x,by rw [cell_of hh,Nat.add_assoc];exact h2,h3⟩
theorem run_append_none {t tx ty e:TypeId} {i:TypeInfo} (ht:P.underlying t=some (.slice e)) (hi:P.info? e=some i) (A:Option Addr) (x:Value) (news:List Value) (hs:Src P i.size tx x 0 news w) :
 (Builtin.append_ #[t,tx] ty #[.slice A 0 0,x]).run P w=.ok (.slice A 0 0) w:=by
 have hn:news=[]:=List.eq_nil_of_length_eq_zero (by rw [hs.newsLen];simp)
 subst hn
 rcases hs.kind with ⟨e',hk⟩|hk<;>cases A<;>simp [Builtin.append_,run_underlying ht,run_underlying hk,sizeOf,typeInfo,hi,hs.len,hs.cells,storeCells]
theorem run_append_room_row {t tx ty e:TypeId} {i:TypeInfo} (ht:P.underlying t=some (.slice e)) (hi:P.info? e=some i) (b off sLen sCap:Nat) (x:Value) (n:Nat) (news:List Value) (hs:Src P i.size tx x n news w)
 (hroom:sLen + n≤sCap) {cur:Array Value} {e':TypeId} (hg:w.heap[b]?=some (.cells cur e' (0,0))) (hfit:off + sLen * i.size + news.length≤cur.size) :
 (Builtin.append_ #[t,tx] ty #[.slice (some ⟨b,off,none⟩) sLen sCap,x]).run P w=.ok (.slice (some ⟨b,off,none⟩) (sLen + n) sCap) (w.setRow b (cur.toList.take (off + sLen * i.size)++news++cur.toList.drop (off + sLen * i.size + news.length)).toArray):=by
 have hst:=run_storeCells_at P b (off + sLen * i.size) e' news 0 cur w hg (by simpa using hfit) hs.one
 simp only [Nat.add_zero] at hst
 rcases hs.kind with ⟨e',hk⟩|hk<;>simp [Builtin.append_,run_underlying ht,run_underlying hk,sizeOf,typeInfo,hi,hs.len,hroom,hs.cells,Addr.add_lit,hst]
theorem info_of {e:TypeId} {l':Lay} {sz by':Nat} {z':List AV} (he:TyOK P e l' sz by' z'):∃ (i:TypeInfo) (z:Value),P.info? e=some i∧i.size=sz∧i.bytes=by'∧i.zero=some z∧z.cells.size=sz:=by
 obtain ⟨d,inf,z,h1,h2,h3,h4,h5,h6,h7,h8,h9,_⟩:=he.spec
 refine ⟨inf,z,h3,h4,h5,h6,?_⟩
 rw [← h8,← h7]
 simp
end
section
variable {P:Program} {o:Oper} {E:Operand→Option AV} {H:Hp} {f:Nat} {v a:AV} {t tx:TypeId} {l lx:Lay} {size bytes sx bx:Nat} {zero zx:List AV} {x y:Operand} {e ex sz by' m:Nat} {l':Lay} {z' ns:List AV} {rd:List Nat}
theorem new_row_rep {X':Nat→Prop} {φ':Em} {w w':World} {news:Array Value} {z:Value} {n cap:Nat} (hf:φ' f=some (w.heap.size,0)) (hb:bsz w' w.heap.size=(news++Builtin.zeroCells z.cells (cap - n)).size + 1) (hn:news.size=n * sz) (hz:z.cells.size=sz) (hc:n≤cap) :
 Rep X' w' φ' (.slice (some ⟨w.heap.size,0,none⟩) n cap) (.osl f 0 n sz):=by
 have hs:bsz w' w.heap.size=cap * sz + 1:=by
  rw [hb,Array.size_append,hn,size_zeroCells,hz,← Nat.add_mul]
  congr 2
  omega
 have:=Rep.osl (X:=X') (w:=w') (φ:=φ') f 0 n sz w.heap.size 0 cap hf hc (by rw [hs];omega)
 exact this
theorem LO.append_nil (ho:o.op=.call { callee:=.builtin .append,args:=#[x,y],argTypes:=#[t,tx] }) (hx:E x=some .nils) (hy:SrcAV E H y sz m ns rd) (ht:TyOK P t (.sl e) size bytes zero) (htx:TyOK P tx (.sl ex) sx bx zx) (he:TyOK P e l' sz by' z') (h0:0 < sz)
 (hm:m * by'≤140737488355328) (hm2:m≤9223372036854775807) (_hrd:f ∉ rd):LO P o E H f rd [f] (.osl f 0 m sz) (up H f (some ns)):=by
 refine ⟨fun r hr=>up_ne (by simpa using hr),fun E' K hE hK X φ w ρ hR hst hf=>?_⟩
 rw [ovr_one]
 have e1:ρ x=.slice none 0 0:=by
  have h:=hR x _ ((hE x (by simp [ho,Op.operands,Call.operands])).trans hx)
  generalize ρ x=u at h
  cases h;rfl
 obtain ⟨news,hs,hnl,hns⟩:=hy.src (P:=P) (X:=X) (w:=w) (φ:=φ) (u:=ρ y) (fun r hr=>hK r (.inl hr)) hst (fun a ha=>hR y a ((hE y (by simp [ho,Op.operands,Call.operands])).trans ha)) (lay_sl htx) h0
 obtain ⟨i,z,hi,hsz,hby,hz,hzs⟩:=info_of he
 subst hsz
 unfold OpW
 by_cases hm0:m=0
 ·subst hm0
  have hns0:ns=[]:=List.eq_nil_of_length_eq_zero (by rw [← hnl,hs.newsLen];simp)
  have hrun:=run_append_none (P:=P) (ty:=o.type) (lay_sl ht) hi none (ρ y) news hs
  simp only [execOp,ho,resolve,invoke,Go.builtin,Sem.run_bind,Sem.run_pure,Result.andThen_ok,List.map_toArray,List.map_cons,List.map_nil,e1,hrun]
  obtain ⟨h1,h2⟩:=hst.phantom hf
  subst hns0
  exact ⟨X,φ,h1,h2,.osl0 _ _ _ _⟩
 ·have hfc:(Builtin.firstCells i.size 0 (.slice none 0 0)).run P w.drew=.ok ([]:List Value).toArray w.drew:=by simp [Builtin.firstCells]
  have hrun:=run_append_grow_src (P:=P) w t tx o.type e i z (lay_sl ht) hi hz none 0 0 [] hfc (ρ y) m news hs (by omega) (by omega) (growslice_fits (by omega) (by rw [hby];simpa using hm))
  simp only [execOp,ho,resolve,invoke,Go.builtin,Sem.run_bind,Sem.run_pure,Result.andThen_ok,List.map_toArray,List.map_cons,List.map_nil,e1,hrun]
  obtain ⟨h1,h2,h3,h4,h5⟩:=hst.fresh (w':=w.drew.alloc (.cells (([]++news).toArray++Builtin.zeroCells z.cells (grownCap w (0 + m) 0 e - (0 + m))) e)) (cs:=ns) hf rfl rfl rfl rfl (fun j c hj=>by
   obtain ⟨g1,u,g2,g3⟩:=hns j c hj
   have hlt:j < news.length:=(List.getElem?_eq_some_iff.1 g2).1
   exact ⟨g1,u,by simp [Array.getElem?_append,hlt];exact (List.getElem?_eq_some_iff.1 g2).2,g3⟩)
  refine ⟨_,_,h1,h2,?_⟩
  have:=new_row_rep (φ':=fun r=>if r=f then some (w.heap.size,0) else φ r) (X':=fun b=>X b∨b=w.heap.size) (sz:=i.size) h5 h4 (by simp [hs.newsLen]) hzs (grownCap_ge w (0 + m) 0 e)
  simpa using this
theorem LO.append {r off len:Nat} {cs olds:List AV} (ho:o.op=.call { callee:=.builtin .append,args:=#[x,y],argTypes:=#[t,tx] }) (hx:E x=some (.osl r off len sz)) (hy:SrcAV E H y sz m ns rd) (hH:H r=some cs) (hv:Tk cs off (len * sz) olds)
 (ht:TyOK P t (.sl e) size bytes zero) (htx:TyOK P tx (.sl ex) sx bx zx) (he:TyOK P e l' sz by' z') (h0:0 < sz) (hm:(len + m) * by'≤140737488355328) (hm2:len + m≤9223372036854775807) (hrf:r≠f) :
 LO P o E H f rd [f,r] (.osl f 0 (len + m) sz) (up (up H r none) f (some (olds++ns))):=by
 refine ⟨fun r' hr'=>by simp at hr';rw [up_ne hr'.1,up_ne hr'.2],fun E' K hE hK X φ w ρ hR hst hf=>?_⟩
 rw [ovr_two]
 have hKr:=(hK r (.inr (by simp))).trans hH
 obtain ⟨A,cap,e1,hc,hcase⟩:=(hR x _ ((hE x (by simp [ho,Op.operands,Call.operands])).trans hx)).osl_inv
 obtain ⟨news,hs,hnl,hns⟩:=hy.src (P:=P) (X:=X) (w:=w) (φ:=φ) (u:=ρ y) (fun r hr=>hK r (.inl hr)) hst (fun a ha=>hR y a ((hE y (by simp [ho,Op.operands,Call.operands])).trans ha)) (lay_sl htx) h0
 obtain ⟨i,z,hi,hsz,hby,hz,hzs⟩:=info_of he
 subst hsz
 have hdrop:∀ c:List AV,∀ r' cs',up (up K r none) f (some c) r'=some cs'→up K f (some c) r'=some cs':=by
  intro c r' cs' h
  by_cases h1:r'=f
  ·subst h1;rw [up_at] at h ⊢;exact h
  ·rw [up_ne h1] at h ⊢
   by_cases h2:r'=r
   ·subst h2;rw [up_at] at h;cases h
   ·rwa [up_ne h2] at h
 -- what grows
 have grow:cap < len + m→∀ oldV:List Value,oldV.length=len * i.size→(Builtin.firstCells i.size len (.slice A len cap)).run P w.drew=.ok oldV.toArray w.drew→(∀ (j:Nat) c,olds[j]?=some c→c.one=true∧∃ u,oldV[j]?=some u∧Rep X w φ u c) →
  OpW P o ρ w fun x w'=>∃ X' φ',Nxt K (·=f) X φ w (up (up K r none) f (some (olds++ns))) X' φ' w'∧St X' φ' (up (up K r none) f (some (olds++ns))) w'∧Rep X' w' φ' x (.osl f 0 (len + m) i.size):=by
  intro hg oldV hol hfc hos
  have hrun:=run_append_grow_src (P:=P) w t tx o.type e i z (lay_sl ht) hi hz A len cap oldV hfc (ρ y) m news hs hg (by omega) (growslice_fits hg (by rw [hby];exact hm))
  unfold OpW
  simp only [execOp,ho,resolve,invoke,Go.builtin,Sem.run_bind,Sem.run_pure,Result.andThen_ok,List.map_toArray,List.map_cons,List.map_nil,e1,hrun]
  have hoL:oldV.length=olds.length:=by rw [hol,hv.1]
  obtain ⟨h1,h2,h3,h4,h5⟩:=hst.fresh (w':=w.drew.alloc (.cells ((oldV++news).toArray++Builtin.zeroCells z.cells (grownCap w (len + m) cap e - (len + m))) e)) (cs:=olds++ns) hf rfl rfl rfl rfl (fun j c hj=>by
   have hsz2:(oldV++news).toArray.size=oldV.length + news.length:=by simp
   rw [List.getElem?_append] at hj
   split at hj
   ·rename_i hlt
    obtain ⟨g1,u,g2,g3⟩:=hos j c hj
    exact ⟨g1,u,by rw [Array.getElem?_append,if_pos (by omega)];simp only [List.getElem?_toArray];rw [List.getElem?_append,if_pos (by omega)];exact g2,g3⟩
   ·rename_i hge
    obtain ⟨g1,u,g2,g3⟩:=hns _ c hj
    have hlt:j - olds.length < news.length:=(List.getElem?_eq_some_iff.1 g2).1
    exact ⟨g1,u,by rw [Array.getElem?_append,if_pos (by omega)];simp only [List.getElem?_toArray];rw [List.getElem?_append,if_neg (by omega),hoL];exact g2,g3⟩)
  exact ⟨_,_,h1.drop (hdrop _),h2.drop (hdrop _),new_row_rep (φ':=fun r=>if r=f then some (w.heap.size,0) else φ r) (X':=fun b=>X b∨b=w.heap.size) (sz:=i.size) h5 h4 (by simp [hs.newsLen,hol,Nat.add_mul]) hzs (grownCap_ge w (len + m) cap e)⟩
 rcases hcase with ⟨h1,h2⟩|⟨b,o',hp,hA,hbz⟩
 ·subst h1 h2
  have holds:olds=[]:=List.eq_nil_of_length_eq_zero (by rw [hv.1];simp)
  by_cases hm0:m=0
  ·subst hm0
   have hns0:ns=[]:=List.eq_nil_of_length_eq_zero (by rw [← hnl,hs.newsLen];simp)
   have hrun:=run_append_none (P:=P) (ty:=o.type) (lay_sl ht) hi A (ρ y) news hs
   unfold OpW
   simp only [execOp,ho,resolve,invoke,Go.builtin,Sem.run_bind,Sem.run_pure,Result.andThen_ok,List.map_toArray,List.map_cons,List.map_nil,e1,hrun]
   obtain ⟨h1,h2⟩:=hst.phantom hf
   subst hns0 holds
   exact ⟨X,φ,h1.drop (hdrop _),h2.drop (hdrop _),.osl0 _ _ _ _⟩
  ·refine grow (by omega) [] (by simp) (by cases A<;>simp [Builtin.firstCells,loadCells,loadCellsFrom]) fun j c hj=>?_
   rw [holds] at hj
   simp at hj
 ·obtain ⟨c,el,hX,hh,hcs⟩:=hst.cells hKr hp (by omega)
  rw [bsz_of hh] at hbz
  by_cases hroom:len + m≤cap
  ·have hmul:len * i.size + m * i.size≤cap * i.size:=by rw [← Nat.add_mul];exact Nat.mul_le_mul_right _ hroom
   have hfit:o' + off + len * i.size + news.length≤c.size:=by rw [hs.newsLen];omega
   subst hA
   have hrun:=run_append_room_row (P:=P) (ty:=o.type) (lay_sl ht) hi b (o' + off) len cap (ρ y) m news hs hroom hh hfit
   unfold OpW
   simp only [execOp,ho,resolve,invoke,Go.builtin,Sem.run_bind,Sem.run_pure,Result.andThen_ok,List.map_toArray,List.map_cons,List.map_nil,e1,hrun]
   have hget:=splice_get c.toList news (o' + off + len * i.size)
   generalize hc':(c.toList.take (o' + off + len * i.size)++news++c.toList.drop (o' + off + len * i.size + news.length)).toArray=c' at hrun
   have hc's:c'.size=c.size:=by rw [← hc'];simp;omega
   obtain ⟨h1,h2,h3⟩:=hst.reuse (f:=f) (w':=w.setRow b c') (c':=c') (o':=o' + off) (cs':=olds++ns) hKr hp hh hf rfl rfl rfl (by simp) (fun b' hb'=>setRow_other w b b' c' hb') (setRow_heap w b c c' el (0,0) hh) hc's (fun j d hj=>by
    have hg2:c'[o' + off + j]?=if o' + off + j < o' + off + len * i.size then c[o' + off + j]? else if o' + off + j < o' + off + len * i.size + news.length then news[o' + off + j - (o' + off + len * i.size)]? else c[o' + off + j]?:=by
     rw [← hc']
     have:=hget (o' + off + j) (by simpa using hfit)
     simpa using this
    rw [hg2]
    rw [List.getElem?_append] at hj
    split at hj
    ·rename_i hlt
     obtain ⟨g1,u,g2,g3⟩:=hcs _ d (hv.2 j d hj)
     rw [hv.1] at hlt
     exact ⟨g1,u,by rw [if_pos (by omega),Nat.add_assoc];exact g2,g3⟩
    ·rename_i hge
     obtain ⟨g1,u,g2,g3⟩:=hns _ d hj
     have hlt:j - olds.length < news.length:=(List.getElem?_eq_some_iff.1 g2).1
     rw [hv.1] at hge hlt g2
     exact ⟨g1,u,by rw [if_neg (by omega),if_pos (by omega),show o' + off + j - (o' + off + len * i.size)=j - len * i.size from by omega];exact g2,g3⟩)
   refine ⟨_,_,h1,h2,?_⟩
   have hbz2:bsz (w.setRow b c') b=c.size + 1:=by rw [bsz_of (setRow_heap w b c c' el (0,0) hh),hc's]
   have:=Rep.osl (X:=X) (w:=w.setRow b c') (φ:=fun x=>if x=f then some (b,o' + off) else φ x) f 0 (len + m) i.size b (o' + off) cap h3 hroom (by rw [hbz2];omega)
   exact this
  ·subst hA
   have holdsAt:∀ (j:Nat) d,olds[j]?=some d→d.one=true∧∃ u,w.cell? ⟨b,o' + off + j,none⟩=some u∧Rep X w φ u d:=fun j d hj=>by
    obtain ⟨g1,u,g2,g3⟩:=hcs _ d (hv.2 j d hj)
    exact ⟨g1,u,by rw [cell_of hh,Nat.add_assoc];exact g2,g3⟩
   refine grow (by omega) ((List.range olds.length).map fun j=>(w.cell? ⟨b,o' + off + j,none⟩).getD undef) (by simp [hv.1]) ?_ fun j d hj=>?_
   ·refine run_firstCells_some (P:=P) w.drew i.size len _ len cap _ (by simp [hv.1]) fun j u hu=>?_
    rw [Addr.add_lit]
    have hlt:j < olds.length:=by have:=(List.getElem?_eq_some_iff.1 hu).1;simpa using this
    obtain ⟨_,u',g2,_⟩:=holdsAt j olds[j] (List.getElem?_eq_getElem hlt)
    simp [hlt,g2] at hu
    show w.cell? _=_
    rw [g2,hu]
   ·obtain ⟨g1,u,g2,g3⟩:=holdsAt j d hj
    have hlt:j < olds.length:=(List.getElem?_eq_some_iff.1 hj).1
    exact ⟨g1,u,by simp [hlt,g2],g3⟩
end
theorem Nxt.trans {H0 H H':Hp} {f0:Nat→Prop} {f:Nat→Prop} {X0 X X':Nat→Prop} {φ0 φ φ':Em} {w0 w w':World} (h:Nxt H0 f0 X0 φ0 w0 H X φ w) (k:Nxt H f X φ w H' X' φ' w') (hf:∀ r,f r→f0 r):Nxt H0 f0 X0 φ0 w0 H' X' φ' w' where
 os:=k.os.trans h.os
 tape:=k.tape.trans h.tape
 output:=k.output.trans h.output
 size:=Nat.le_trans h.size k.size
 same:=fun b hb hn=>by
  rw [k.same b (Nat.lt_of_lt_of_le hb h.size) fun r cs o hH hp=>?_,h.same b hb hn]
  rcases h.lv r cs b o hH hp with h1|⟨r0,cs0,o0,h1,h2⟩
  ·omega
  ·exact hn r0 cs0 o0 h1 h2
 bs:=fun b hb=>(k.bs b (Nat.lt_of_lt_of_le hb h.size)).trans (h.bs b hb)
 xs:=fun b hb hx=>h.xs b hb (k.xs b (Nat.lt_of_lt_of_le hb h.size) hx)
 xk:=fun b hb hx=>by
  rcases h.xk b hb hx with h1|h1
  ·rcases k.xk b (Nat.lt_of_lt_of_le hb h.size) h1 with h2|⟨r,cs,o,h2,h3⟩
   ·exact .inl h2
   ·rcases h.lv r cs b o h2 h3 with h4|h4
    ·omega
    ·obtain ⟨r0,cs0,o0,h5,h6⟩:=h4
     exact .inr ⟨r0,cs0,o0,h5,h6⟩
  ·exact .inr h1
 ph:=fun r hr=>(k.ph r (fun h=>hr (hf r h))).trans (h.ph r hr)
 lv:=fun r cs b o h1 h2=>by
  rcases k.lv r cs b o h1 h2 with h3|⟨r0,cs0,o0,h3,h4⟩
  ·exact .inl (Nat.le_trans h.size h3)
  ·exact h.lv r0 cs0 b o0 h3 h4
def dstAt (ops:Array Oper) (j:Nat):Option Tmp:=(ops[j]?).bind (·.dst)
def runsT (ops:Array Oper) (T:Tp) (o:Oper):Option Bool:=match o.guard with
 | none=>some true
 | some (j,b)=>match dstAt ops j with
  | some t=>match T t with
   | some (.base (.bool x))=>some (x == b)
   | some (.base _)=>some false
   | _=>none
  | none=>none
def putT (T:Tp) (d:Option Tmp) (v:AV):Tp:=match d with
 | some t=>up T t (some v)
 | none=>T
inductive RW (P:Program) (ops:Array Oper) (m:Nat) (K:Tp→Hp→List (List Nat × List Nat)→Prop):Nat→List Oper→Tp→Hp→List (List Nat × List Nat)→Prop
 | nil {i:Nat} {T:Tp} {H:Hp} {acc:List (List Nat × List Nat)} (h:K T H acc):RW P ops m K i [] T H acc
 | op {i:Nat} {o:Oper} {l:List Oper} {T:Tp} {H H':Hp} {acc:List (List Nat × List Nat)} {rd wr:List Nat} {v:AV} (hg:runsT ops T o=some true) (h:LO P o (ev T) H (m + i) rd wr v H')
  (k:RW P ops m K (i + 1) l (putT T o.dst v) H' ((rd,wr)::acc)):RW P ops m K i (o::l) T H acc
 | skip {i:Nat} {o:Oper} {l:List Oper} {T:Tp} {H:Hp} {acc:List (List Nat × List Nat)} (hg:runsT ops T o=some false)
  (k:RW P ops m K (i + 1) l (putT T o.dst (.base undef)) H (([],[])::acc)):RW P ops m K i (o::l) T H acc
def StepT (P:Program) (ops:Array Oper) (m i:Nat) (o:Oper) (T:Tp) (H:Hp) (rd wr:List Nat) (T':Tp) (H':Hp):Prop :=
 (runsT ops T o=some true∧∃ v,LO P o (ev T) H (m + i) rd wr v H'∧T'=putT T o.dst v) ∨
 (runsT ops T o=some false∧T'=putT T o.dst (.base undef)∧H'=H∧rd=[]∧wr=[])
theorem RW.trace {P:Program} {ops:Array Oper} {m:Nat} {K:Tp→Hp→List (List Nat × List Nat)→Prop}:∀ {i:Nat} {l:List Oper} {T:Tp} {H:Hp} {acc:List (List Nat × List Nat)},RW P ops m K i l T H acc →
 ∃ (Ts:Nat→Tp) (Hs:Nat→Hp) (rds wrs:Nat→List Nat),Ts i=T∧Hs i=H∧(∀ j o,l[j]?=some o→StepT P ops m (i + j) o (Ts (i + j)) (Hs (i + j)) (rds (i + j)) (wrs (i + j)) (Ts (i + j + 1)) (Hs (i + j + 1))) ∧
  K (Ts (i + l.length)) (Hs (i + l.length)) (((List.range l.length).map fun j=>(rds (i + j),wrs (i + j))).reverse++acc):=by
 intro i l T H acc h
 have ext:∀ {i:Nat} {o:Oper} {l:List Oper} {T T1:Tp} {H H1:Hp} {acc:List (List Nat × List Nat)} {rd wr:List Nat},StepT P ops m i o T H rd wr T1 H1 →
  (∃ (Ts:Nat→Tp) (Hs:Nat→Hp) (rds wrs:Nat→List Nat),Ts (i + 1)=T1∧Hs (i + 1)=H1∧(∀ j o,l[j]?=some o→StepT P ops m (i + 1 + j) o (Ts (i + 1 + j)) (Hs (i + 1 + j)) (rds (i + 1 + j)) (wrs (i + 1 + j)) (Ts (i + 1 + j + 1)) (Hs (i + 1 + j + 1))) ∧
   K (Ts (i + 1 + l.length)) (Hs (i + 1 + l.length)) (((List.range l.length).map fun j=>(rds (i + 1 + j),wrs (i + 1 + j))).reverse++((rd,wr)::acc))) →
  ∃ (Ts:Nat→Tp) (Hs:Nat→Hp) (rds wrs:Nat→List Nat),Ts i=T∧Hs i=H∧(∀ j p,(o::l)[j]?=some p→StepT P ops m (i + j) p (Ts (i + j)) (Hs (i + j)) (rds (i + j)) (wrs (i + j)) (Ts (i + j + 1)) (Hs (i + j + 1))) ∧
   K (Ts (i + (o::l).length)) (Hs (i + (o::l).length)) (((List.range (o::l).length).map fun j=>(rds (i + j),wrs (i + j))).reverse++acc):=by
  intro i o l T T1 H H1 acc rd wr hs ⟨Ts,Hs,rds,wrs,h1,h2,h3,h4⟩
  refine ⟨fun j=>if j=i then T else Ts j,fun j=>if j=i then H else Hs j,fun j=>if j=i then rd else rds j,fun j=>if j=i then wr else wrs j,if_pos rfl,if_pos rfl,fun j p hj=>?_,?_⟩
  ·cases j with
   | zero =>
    simp at hj
    subst hj
    simp only [Nat.add_zero,if_true,show ¬ (i + 1=i) by omega,if_false]
    rw [h1,h2]
    exact hs
   | succ j =>
    have:=h3 j p (by simpa using hj)
    simp only [show ¬ (i + (j + 1)=i) by omega,show ¬ (i + (j + 1) + 1=i) by omega,if_false]
    rw [show i + (j + 1)=i + 1 + j from by omega]
    exact this
  ·simp only [List.length_cons,show ¬ (i + (l.length + 1)=i) by omega,if_false]
   rw [show i + (l.length + 1)=i + 1 + l.length from by omega]
   have e:((List.range (l.length + 1)).map fun j=>(if i + j=i then rd else rds (i + j),if i + j=i then wr else wrs (i + j)))=(rd,wr)::(List.range l.length).map fun j=>(rds (i + 1 + j),wrs (i + 1 + j)):=by
    rw [List.range_succ_eq_map]
    simp only [List.map_cons,List.map_map,Nat.add_zero,if_true]
    congr 1
    apply List.map_congr_left
    intro j _
    simp only [Function.comp,Nat.succ_eq_add_one,show ¬ (i + (j + 1)=i) by omega,if_false]
    rw [show i + (j + 1)=i + 1 + j from by omega]
   rw [e]
   simpa using h4
 induction h with
 | nil h=>exact ⟨fun _=>_,fun _=>_,fun _=>[],fun _=>[],rfl,rfl,fun j o hj=>by simp at hj,by simpa using h⟩
 | op hg h _ ih=>exact ext (.inl ⟨hg,_,h,rfl⟩) ih
 | skip hg _ ih=>exact ext (.inr ⟨hg,rfl,rfl,rfl,rfl⟩) ih
def bEdges (o:Oper):List Edge:=o.after.toList.filter (Region.binds .any)
def edgesLt:Nat→List Oper→Bool
 | _,[]=>true
 | k,o::l=>(bEdges o).all (fun e=>decide (e.on < k)) && edgesLt (k + 1) l
theorem edgesLt_at:∀ (l:List Oper) (k i:Nat) (o:Oper),edgesLt k l=true→l[i]?=some o→∀ e∈bEdges o,e.on < k + i:=by
 intro l
 induction l with
 | nil=>intro k i o _ h;simp at h
 | cons x l ih =>
  intro k i o hd h e he
  simp only [edgesLt,Bool.and_eq_true,List.all_eq_true,decide_eq_true_eq] at hd
  cases i with
  | zero=>simp at h;subst h;exact hd.1 e he
  | succ i =>
   have:=ih (k + 1) i o hd.2 (by simpa using h) e he
   omega
def maskOf (o:Oper) (acc:List Nat):Nat:=(bEdges o).foldl (fun s e=>s ||| ((1 <<< e.on) ||| acc.getD e.on 0)) 0
def masks:List Oper→List Nat→List Nat
 | [],acc=>acc
 | o::l,acc=>masks l (acc++[maskOf o acc])
theorem testBit_foldl {α:Type} (g:α→Nat) (i:Nat):∀ (l:List α) (s:Nat),(l.foldl (fun s e=>s ||| g e) s).testBit i=(s.testBit i || l.any fun e=>(g e).testBit i):=by
 intro l
 induction l with
 | nil=>intro s;simp
 | cons x l ih=>intro s;rw [List.foldl_cons,ih,Nat.testBit_or];simp [Bool.or_assoc]
def ClosedL (l:List Oper) (S:Nat→Bool):Prop:=∀ (i:Nat) o,l[i]?=some o→S i=true→∀ e∈(bEdges o),S e.on=true
def MaskOK (l:List Oper) (acc:List Nat):Prop:=∀ (j mk:Nat),acc[j]?=some mk→∀ S:Nat→Bool,ClosedL l S→∀ o:Oper,l[j]?=some o→(∀ e∈(bEdges o),S e.on=true)→∀ i:Nat,mk.testBit i=true→S i=true
theorem masks_ok (ops:List Oper):∀ (l pre:List Oper) (acc:List Nat),ops=pre++l→acc.length=pre.length→MaskOK ops acc→MaskOK ops (masks l acc):=by
 intro l
 induction l with
 | nil=>intro pre acc _ _ h;exact h
 | cons o l ih =>
  intro pre acc he hl h
  refine ih (pre++[o]) _ (by simp [he]) (by simp [hl]) fun j mk hj S hS o' ho' hd i hb=>?_
  rw [List.getElem?_append] at hj
  split at hj
  ·exact h j mk hj S hS o' ho' hd i hb
  ·rename_i hge
   have hj0:j=acc.length:=by
    have:=(List.getElem?_eq_some_iff.1 hj).1
    simp at this
    omega
   subst hj0
   simp at hj
   subst hj
   have ho:o'=o:=by
    rw [he,hl,List.getElem?_append_right (Nat.le_refl _)] at ho'
    simpa using ho'.symm
   subst ho
   unfold maskOf at hb
   rw [testBit_foldl] at hb
   simp only [Nat.zero_testBit,Bool.false_or,List.any_eq_true] at hb
   obtain ⟨e,he1,he2⟩:=hb
   rw [Nat.testBit_or] at he2
   have hSe:=hd e he1
   cases h1:(1 <<< e.on).testBit i with
   | true =>
    rw [Nat.one_shiftLeft,Nat.testBit_two_pow] at h1
    have:e.on=i:=by simpa using h1
    rw [← this];exact hSe
   | false =>
    rw [h1,Bool.false_or] at he2
    cases ha:acc[e.on]? with
    | none =>
     rw [List.getD_eq_getElem?_getD,ha] at he2
     simp at he2
    | some mk =>
     rw [List.getD_eq_getElem?_getD,ha] at he2
     cases hoe:ops[e.on]? with
     | none =>
      have:=(List.getElem?_eq_some_iff.1 ha).1
      rw [List.getElem?_eq_none_iff,he] at hoe
      simp at hoe
      omega
     | some oe=>exact h e.on mk ha S hS oe hoe (hS e.on oe hoe hSe) i (by simpa using he2)
def slotsR (ops:Array Oper) (o:Oper):List Nat:=(o.op.operands.toList.filterMap fun|.tmp t=>some t|_=>none)++(match o.guard with
 | some (j,_)=>(dstAt ops j).toList
 | none=>[])
def slotsW (o:Oper):List Nat:=o.dst.toList
def clash (r1 w1 r2 w2:List Nat):Bool:=w1.any (fun x=>r2.contains x || w2.contains x) || r1.any (fun x=>w2.contains x)
theorem clash_of {r1 w1 r2 w2:List Nat} {x:Nat} (h:(x∈w1∧(x∈r2∨x∈w2))∨(x∈r1∧x∈w2)):clash r1 w1 r2 w2=true:=by
 unfold clash
 rcases h with ⟨h1,h2⟩|⟨h1,h2⟩
 ·have:w1.any (fun x=>r2.contains x || w2.contains x)=true:=List.any_eq_true.2 ⟨x,h1,by rcases h2 with h2|h2<;>simp [h2]⟩
  rw [this];rfl
 ·have:r1.any (fun x=>w2.contains x)=true:=List.any_eq_true.2 ⟨x,h1,by simp [h2]⟩
  rw [this];simp
def clashO (ops:Array Oper) (o1 o2:Oper) (f1 f2:List Nat × List Nat):Bool:=clash (slotsR ops o1) (slotsW o1) (slotsR ops o2) (slotsW o2) || clash f1.1 f1.2 f2.1 f2.2
def indepOne (ops:Array Oper) (o:Oper) (fo:List Nat × List Nat) (mk:Nat):Nat→List Oper→List (List Nat × List Nat)→Bool
 | i,p::l,fp::fs=>(!clashO ops p o fp fo || mk.testBit i) && indepOne ops o fo mk (i + 1) l fs
 | _,_,_=>true
def indepAll (ops:Array Oper) (L:List Oper) (F:List (List Nat × List Nat)):List Oper→List (List Nat × List Nat)→List Nat→Nat→Bool
 | o::l,fo::fs,mk::ms,j=>indepOne ops o fo mk 0 (L.take j) (F.take j) && indepAll ops L F l fs ms (j + 1)
 | _,_,_,_=>true
def indep (ops:Array Oper) (acc:List (List Nat × List Nat)):Bool :=
 edgesLt 0 ops.toList && indepAll ops ops.toList acc.reverse ops.toList acc.reverse (masks ops.toList []) 0
theorem indepOne_at {ops:Array Oper} {o:Oper} {fo:List Nat × List Nat} {mk:Nat}:∀ {k:Nat} {l:List Oper} {fs:List (List Nat × List Nat)} {i:Nat} {p:Oper} {fp:List Nat × List Nat},indepOne ops o fo mk k l fs=true→l[i]?=some p→fs[i]?=some fp→clashO ops p o fp fo=true→mk.testBit (k + i)=true:=by
 intro k l
 induction l generalizing k with
 | nil=>intro fs i p fp _ h;simp at h
 | cons q l ih =>
  intro fs i p fp h hp hf hc
  cases fs with
  | nil=>simp at hf
  | cons g fs =>
   simp only [indepOne,Bool.and_eq_true,Bool.or_eq_true,Bool.not_eq_true'] at h
   cases i with
   | zero =>
    simp at hp hf
    subst hp hf
    rcases h.1 with h1|h1
    ·rw [h1] at hc;cases hc
    ·exact h1
   | succ i =>
    have:=ih h.2 (by simpa using hp) (by simpa using hf) hc
    rwa [show k + 1 + i=k + (i + 1) from by omega] at this
theorem indepAll_at {ops:Array Oper} {L:List Oper} {F:List (List Nat × List Nat)}:∀ {l:List Oper} {fs:List (List Nat × List Nat)} {ms:List Nat} {k j:Nat} {o:Oper} {fo:List Nat × List Nat} {mk:Nat},indepAll ops L F l fs ms k=true→l[j]?=some o→fs[j]?=some fo→ms[j]?=some mk →
 indepOne ops o fo mk 0 (L.take (k + j)) (F.take (k + j))=true:=by
 intro l
 induction l with
 | nil=>intro fs ms k j o fo mk _ h;simp at h
 | cons q l ih =>
  intro fs ms k j o fo mk h ho hf hm
  cases fs with
  | nil=>simp at hf
  | cons g fs =>
   cases ms with
   | nil=>simp at hm
   | cons m' ms =>
    simp only [indepAll,Bool.and_eq_true] at h
    cases j with
    | zero=>simp at ho hf hm;subst ho hf hm;exact h.1
    | succ j =>
     have:=ih h.2 (by simpa using ho) (by simpa using hf) (by simpa using hm)
     rwa [show k + 1 + j=k + (j + 1) from by omega] at this
theorem masks_len:∀ (l:List Oper) (acc:List Nat),(masks l acc).length=acc.length + l.length:=by
 intro l
 induction l with
 | nil=>intro acc;rfl
 | cons o l ih=>intro acc;rw [masks,ih];simp;omega
theorem runsT_congr {ops:Array Oper} {T T':Tp} {o:Oper} (h:∀ t,t∈slotsR ops o→T' t=T t):runsT ops T' o=runsT ops T o:=by
 unfold runsT
 cases hg:o.guard with
 | none=>rfl
 | some jb =>
  obtain ⟨j,b⟩:=jb
  simp only
  cases hd:dstAt ops j with
  | none=>rfl
  | some t=>simp only;rw [h t (by simp [slotsR,hg,hd])]
def lastW (S W:Nat→Bool):Nat→Nat
 | 0=>0
 | n + 1=>if S n && W n then n + 1 else lastW S W n
theorem lastW_none {S W:Nat→Bool} (h:∀ j,S j=false) (n:Nat):lastW S W n=0:=by
 induction n with
 | zero=>rfl
 | succ n ih=>unfold lastW;rw [h n];simpa using ih
theorem lastW_read {V:Type} (S W:Nat→Bool) (σ:Nat→V) (n i:Nat) (hσ:∀ j,j < n→W j=false→σ (j + 1)=σ j) (hi:i≤n) (h1:∀ j,i≤j→j < n→S j=true→W j=false) (h2:∀ j,j < i→W j=true→S j=true):σ (lastW S W n)=σ i:=by
 have hA:lastW S W n=lastW S W i:=by
  clear hσ
  induction n with
  | zero=>rw [Nat.le_zero.1 hi]
  | succ n ih =>
   by_cases hn:i=n + 1
   ·rw [hn]
   ·have hc:(S n && W n)=false:=by
     cases hs:S n with
     | false=>rfl
     | true=>simpa using h1 n (by omega) (by omega) hs
    have he:lastW S W (n + 1)=lastW S W n:=by simp only [lastW,hc];simp
    rw [he]
    exact ih (by omega) (fun j hj hj'=>h1 j hj (by omega))
 rw [hA]
 clear hA h1
 induction i with
 | zero=>rfl
 | succ i ih =>
  unfold lastW
  cases hw:W i with
  | true=>rw [h2 i (by omega) hw];rfl
  | false =>
   rw [Bool.and_false,if_neg (by simp),hσ i (by omega) hw]
   exact ih (by omega) fun j hj=>h2 j (by omega)
theorem lastW_new {S S' W:Nat→Bool} {n i:Nat} (hi:i < n) (hS:S' i=true) (hW:W i=true) (hS':∀ j,j≠i→S' j=S j) (h:∀ j,i < j→j < n→S j=true→W j=false):lastW S' W n=i + 1:=by
 induction n with
 | zero=>omega
 | succ n ih =>
  unfold lastW
  by_cases hn:i=n
  ·subst hn;rw [hS,hW];rfl
  ·have hc:(S' n && W n)=false:=by
    rw [hS' n (fun e=>hn e.symm)]
    cases hs:S n with
    | false=>rfl
    | true=>simpa using h n (by omega) (by omega) hs
   rw [hc,if_neg (by simp)]
   exact ih (by omega) (fun j hj hj'=>h j hj (by omega))
theorem lastW_same {S S' W:Nat→Bool} {n i:Nat} (hW:W i=false) (hS':∀ j,j≠i→S' j=S j):lastW S' W n=lastW S W n:=by
 induction n with
 | zero=>rfl
 | succ n ih =>
  unfold lastW
  rw [ih]
  by_cases hn:n=i
  ·subst hn;rw [hW];simp
  ·rw [hS' n hn]
structure Base where
 w0:World
 X0:Nat→Prop
 φ0:Em
 H0:Hp
 k:Nat
def SimF (B:Base) (n:Nat) (Fr:Nat→Prop) (T:Tp) (H:Hp) (a:Act) (w:World):Prop:=∃ X φ,
 Nxt B.H0 (fun r=>B.k≤r) B.X0 B.φ0 B.w0 H X φ w∧a.tmps.size=n∧a.defers=[]∧St X φ H w∧(∀ t v,T t=some v→Rep X w φ (a.tmps.getD t undef) v)∧∀ r,Fr r→φ r=none
def Sim (B:Base) (n m:Nat) (T:Tp) (H:Hp) (a:Act) (w:World):Prop:=B.k≤m∧SimF B n (fun r=>m≤r) T H a w
theorem OpW.mono {P:Program} {o:Oper} {r:Operand→Value} {w:World} {K K':Value→World→Prop} (h:OpW P o r w K) (hk:∀ v w,K v w→K' v w):OpW P o r w K':=by
 unfold OpW at *
 generalize (execOp r o).run P w=q at *
 cases q with
 | ok n w' =>
  cases n<;>simp only at h ⊢<;>first
   | exact hk _ _ h
   | exact h.elim
   | exact Calls.mono h fun e w'' ⟨v,he,hh⟩=>⟨v,he,hk _ _ hh⟩
 | halt x w'=>exact h.elim
section
variable {P:Program} {Q:Exit→Act→World→Prop} {B:Base} {n:Nat} {Fr:Nat→Prop} {T:Tp} {H H':Hp} {a:Act} {w:World}
theorem putT_rep {X:Nat→Prop} {φ:Em} {T:Tp} {d:Option Tmp} {x:Value} {v:AV} (hT:∀ t v,T t=some v→Rep X w φ (a.tmps.getD t undef) v) (hd:∀ t,d=some t→t < a.tmps.size) (hv:Rep X w φ x v) :
 ∀ t u,putT T d v t=some u→Rep X w φ ((a.put d x).tmps.getD t undef) u:=by
 intro t u h
 cases d with
 | none=>exact hT t u h
 | some d =>
  have hlt:=hd d rfl
  simp only [putT] at h
  by_cases he:t=d
  ·subst he
   rw [up_at] at h
   injection h with h
   subst h
   simp [Act.put,hlt]
   exact hv
  ·rw [up_ne he] at h
   have:=hT t u h
   simp only [Act.put,Array.getD_eq_getD_getElem?] at this ⊢
   rw [Array.getElem?_setIfInBounds_ne (fun e=>he e.symm)]
   exact this
theorem SimF.step {o:Oper} {f:Nat} {v:AV} {K:Act→World→Prop} (hs:SimF B n Fr T H a w) (h:SOp P o (ev T) f H v H') (hf:Fr f) (hk:B.k≤f) (hd:∀ t,o.dst=some t→t < n)
 (hK:∀ a' w',SimF B n (fun r=>Fr r∧r≠f) (putT T o.dst v) H' a' w'→K a' w'):o.wp P a w K Q:=by
 obtain ⟨X,φ,h1,h2,h3,h4,h5,h6⟩:=hs
 have hE:∀ x c,ev T x=some c→Rep X w φ (a.eval x) c:=by
  intro x c hx
  cases x with
  | tmp t=>exact h5 t c hx
  | const u=>rw [ev_const] at hx;injection hx with hx;subst hx;exact rep_absC u
  | global g=>injection hx with hx;subst hx;exact .base _
  | func g=>injection hx with hx;subst hx;exact .base _
 refine OpW.wp ((h X φ w a.eval hE h4 (h6 f hf)).mono fun x w' ⟨X',φ',g1,g2,g3⟩=>hK _ _ ⟨X',φ',?_,by rw [← h2];cases o.dst<;>simp [Act.put],by cases o.dst<;>exact h3,g2,?_,fun r hr=>?_⟩)
 ·exact h1.trans g1 fun r hr=>by rw [hr];exact hk
 ·refine putT_rep (fun t u ht=>?_) (fun t ht=>by rw [h2];exact hd t ht) g3
  exact g1.keep h4 (fun r hr=>by rw [hr];exact h6 f hf) (h5 t u ht)
 ·rw [g1.ph r hr.2];exact h6 r hr.1
theorem SimF.skip {d:Option Tmp} (hs:SimF B n Fr T H a w) (hd:∀ t,d=some t→t < n):SimF B n Fr (putT T d (.base undef)) H (a.put d undef) w:=by
 obtain ⟨X,φ,h1,h2,h3,h4,h5,h6⟩:=hs
 exact ⟨X,φ,h1,by rw [← h2];cases d<;>simp [Act.put],by cases d<;>exact h3,h4,putT_rep h5 (fun t ht=>by rw [h2];exact hd t ht) (.base _),h6⟩
theorem SimF.wanted {ops:Array Oper} {o:Oper} {b:Bool} (hs:SimF B n Fr T H a w) (h:runsT ops T o=some b):Region.wanted o (yielded ops a.tmps)=b:=by
 obtain ⟨X,φ,h1,h2,h3,h4,h5,h6⟩:=hs
 unfold runsT at h
 unfold Region.wanted
 cases hg:o.guard with
 | none=>rw [hg] at h;injection h
 | some jb =>
  obtain ⟨j,c⟩:=jb
  rw [hg] at h
  simp only at h ⊢
  cases hd:dstAt ops j with
  | none=>rw [hd] at h;cases h
  | some t =>
   rw [hd] at h
   simp only at h
   cases ht:T t with
   | none=>rw [ht] at h;cases h
   | some u =>
    rw [ht] at h
    cases u<;>first|(simp at h;done)|skip
    rename_i v
    have hr:=(h5 t _ ht).base_eq
    have hno:(∀ x,v≠.bool x)→yielded ops a.tmps j=none:=fun hv=>by
     unfold yielded
     unfold dstAt at hd
     rw [hd]
     simp only [Option.bind_some]
     cases ha:a.tmps[t]? with
     | none=>rfl
     | some u =>
      rw [Array.getD_eq_getD_getElem?,ha] at hr
      have hu:u=v:=hr
      cases u with
      | bool x=>exact absurd hu.symm (hv x)
      | _=>rfl
    by_cases hvb:∃ x,v=.bool x
    case neg =>
     rw [hno fun x e=>hvb ⟨x,e⟩]
     cases v with
     | bool x=>exact absurd ⟨x,rfl⟩ hvb
     | _=>cases h;rfl
    obtain ⟨x,rfl⟩:=hvb
    injection h with h
    have hlt:t < a.tmps.size:=by
     rcases Nat.lt_or_ge t a.tmps.size with hlt|hge
     ·exact hlt
     ·rw [Array.getD_eq_getD_getElem?,Array.getElem?_eq_none hge] at hr;cases hr
    have hx:a.tmps[t]?=some (.bool x):=by
     simp [hlt] at hr
     simp [hlt,hr]
    unfold yielded
    unfold dstAt at hd
    rw [hd]
    simp only [Option.bind_some,hx]
    rw [← h]
    rfl
end
theorem St.heap {X:Nat→Prop} {φ:Em} {H:Hp} {w w':World} (h:St X φ H w) (he:w'.heap=w.heap):St X φ H w':=by
 refine ⟨fun r cs hr=>?_,h.2,h.gl.keep (by rw [he];exact Nat.le_refl _) (fun _ _ _=>by rw [he]) (fun _ _ h=>h)⟩
 obtain h1|⟨b,o,h1,h2,h3⟩:=h.1 r cs hr
 ·exact .inl h1
 ·exact .inr ⟨b,o,h1,h2,h3.keep (by rw [he]) fun v a h7=>h7.keep (by rw [he];exact Nat.le_refl _) (fun _ _ _=>by rw [he]) (fun _ _=>by unfold bst bsz bel;rw [he]) (fun _ _ h=>h) (fun _ _ h=>h)⟩
def dstsLt (l:List Oper) (n:Nat):Bool:=l.all fun o=>match o.dst with
 | some t=>decide (t < n)
 | none=>true
theorem dstsLt_at {l:List Oper} {n i:Nat} {o:Oper} (h:dstsLt l n=true) (ho:l[i]?=some o):∀ t,o.dst=some t→t < n:=by
 intro t ht
 have:=List.all_eq_true.1 h o (List.mem_of_getElem? ho)
 rw [ht] at this
 simpa using this
section
variable {P:Program} {B:Base} {n m:Nat}
theorem region_seq {ops:Array Oper} {id:Nat} {Ts:Nat→Tp} {Hs:Nat→Hp} {rds wrs:Nat→List Nat} (hk:B.k≤m) (hdl:dstsLt ops.toList n=true)
 (hstep:∀ j o,ops.toList[j]?=some o→StepT P ops m j o (Ts j) (Hs j) (rds j) (wrs j) (Ts (j + 1)) (Hs (j + 1))) {a:Act} {w:World} (hs:Sim B n m (Ts 0) (Hs 0) a w) :
 (Code.region id ops false).wp P (fun e a' w'=>e=.normal∧Sim B n (m + ops.size) (Ts ops.size) (Hs ops.size) a' w') a w:=by
 have key:∀ c j a w,j + c=ops.size→SimF B n (fun r=>m + j≤r) (Ts j) (Hs j) a w→wpOps P ops (fun e a' w'=>e=.normal∧Sim B n (m + ops.size) (Ts ops.size) (Hs ops.size) a' w') (List.range' j c) a w:=by
  intro c
  induction c with
  | zero =>
   intro j a w hj h
   obtain rfl:j=ops.size:=by omega
   exact ⟨rfl,by omega,h⟩
  | succ c ih =>
   intro j a w hj h
   rw [List.range'_succ,wpOps_cons]
   obtain ⟨o,ho⟩:∃ o,ops[j]?=some o:=⟨ops[j],by rw [Array.getElem?_eq_getElem]⟩
   have hol:ops.toList[j]?=some o:=by simpa using ho
   have hd:=dstsLt_at hdl hol
   refine wpOp_step ho fun K' hK'=>?_
   rcases hstep j o hol with ⟨hg,v,hLO,hT⟩|⟨hg,hT,hH,_⟩
   ·rw [h.wanted hg,if_pos rfl]
    have hsop:=hLO.2 (ev (Ts j)) (Hs j) (fun _ _=>rfl) (fun _ _=>rfl)
    have hovr:ovr (Hs j) (wrs j) (Hs (j + 1))=Hs (j + 1):=by
     funext r
     unfold ovr
     split
     ·rfl
     ·rename_i hr;exact (hLO.1 r hr).symm
    rw [hovr] at hsop
    refine h.step hsop (Nat.le_refl _) (by omega) hd fun a' w' hs'=>hK' _ _ (ih (j + 1) a' w' (by omega) ?_)
    rw [hT]
    obtain ⟨X,φ,h1,h2,h3,h4,h5,h6⟩:=hs'
    exact ⟨X,φ,h1,h2,h3,h4,h5,fun r hr=>h6 r ⟨by omega,by omega⟩⟩
   ·rw [h.wanted hg,if_neg (by decide)]
    refine hK' _ _ (ih (j + 1) _ w (by omega) ?_)
    rw [hT,hH]
    obtain ⟨X,φ,h1,h2,h3,h4,h5,h6⟩:=h.skip hd
    exact ⟨X,φ,h1,h2,h3,h4,h5,fun r hr=>h6 r (by omega)⟩
 have:=key ops.size 0 a w (by omega) hs.2
 rw [← List.range_eq_range'] at this
 exact wp_region this
theorem count_set1:∀ (q:List Bool) (i:Nat),q[i]?=some false→(q.set i true).count false + 1=q.count false:=by
 intro q
 induction q with
 | nil=>intro i h;simp at h
 | cons b q ih =>
  intro i h
  cases i with
  | zero=>simp at h;subst h;simp
  | succ i =>
   have:=ih i (by simpa using h)
   simp only [List.set_cons_succ,List.count_cons]
   omega
theorem lget_set_ne {ld:Array Bool} {i j:Nat} {d:Bool} (h:j≠i):(ld.setIfInBounds i true).getD j d=ld.getD j d:=by
 simp only [Array.getD_eq_getD_getElem?]
 rw [Array.getElem?_setIfInBounds_ne (fun e=>h e.symm)]
theorem lget_set_eq {ld:Array Bool} {i:Nat} {d:Bool} (h:i < ld.size):(ld.setIfInBounds i true).getD i d=true:=by
 simp [h]
theorem wpAny_J0 {ops:Array Oper} {Q:Exit→Act→World→Prop} (J:Array Bool→Act→World→Prop) (hd:edgesLt 0 ops.toList=true)
 (hstep:∀ ld a w i o,J ld a w→ld.size=ops.size→ClosedL ops.toList (fun j=>ld.getD j false)→ops[i]?=some o→ld.getD i false=false→(∀ e∈bEdges o,ld.getD e.on false=true)→∀ K:Act→World→Prop,(∀ a w,J (ld.setIfInBounds i true) a w→K a w) →
  if Region.wanted o (yielded ops a.tmps)=true then Oper.wp P o a w K Q else K (a.put o.dst undef) w)
 (hend:∀ ld a w,J ld a w→ld.size=ops.size→(∀ i,i < ops.size→ld.getD i false=true)→Q .normal a w) :
 ∀ c ld a w,ld.toList.count false=c→ld.size=ops.size→ClosedL ops.toList (fun j=>ld.getD j false)→J ld a w→wpAny P .any ops Q c ld a w:=by
 have full:∀ ld:Array Bool,ld.size=ops.size→Region.ready .any ops ld=[]→∀ i,i < ops.size→ld.getD i false=true:=by
  intro ld hsz hr i
  induction i using Nat.strongRecOn with
  | _ i ih =>
   intro hi
   cases hl:ld.getD i false with
   | true=>rfl
   | false =>
    exfalso
    have hm:i∈Region.ready .any ops ld:=by
     refine mem_ready.2 ⟨by simp [hsz,hi] at hl ⊢;exact hl,ops[i],by simp [hi],fun e he hbe=>?_⟩
     have:=edgesLt_at ops.toList 0 i ops[i] hd (by simp [hi]) e (List.mem_filter.2 ⟨by simpa using he,hbe⟩)
     exact ih e.on (by omega) (by omega)
    rw [hr] at hm
    cases hm
 intro c
 induction c with
 | zero =>
  intro ld a w hc hsz hcl hJ
  have hall:∀ i,i < ops.size→ld.getD i false=true:=by
   intro i hi
   cases hl:ld.getD i false with
   | true=>rfl
   | false =>
    exfalso
    rw [List.count_eq_zero] at hc
    have:ld[i]'(by omega)=false:=by simpa [hsz,hi] using hl
    exact hc (by rw [← this];simp)
  refine ⟨?_,hend ld a w hJ hsz hall⟩
  cases hr:Region.ready .any ops ld with
  | nil=>rfl
  | cons i l =>
   exfalso
   have hm:i∈Region.ready .any ops ld:=by rw [hr];simp
   obtain ⟨hun,o,ho,_⟩:=mem_ready.1 hm
   have hi:i < ops.size:=(Array.getElem?_eq_some_iff.1 ho).1
   have:=hall i hi
   simp [hsz,hi] at hun this
   rw [this] at hun
   cases hun
 | succ c ih =>
  intro ld a w hc hsz hcl hJ
  refine ⟨fun hr=>hend ld a w hJ hsz (full ld hsz hr),fun i hm=>?_⟩
  obtain ⟨hun,o,ho,hdep⟩:=mem_ready.1 hm
  have hi:i < ops.size:=(Array.getElem?_eq_some_iff.1 ho).1
  have hil:ld.getD i false=false:=by simp [hsz,hi] at hun ⊢;exact hun
  have hdep':∀ e∈bEdges o,ld.getD e.on false=true:=fun e he =>
   hdep e (by simpa using (List.mem_filter.1 he).1) (List.mem_filter.1 he).2
  refine wpOp_step ho fun K' hK'=>hstep ld a w i o hJ hsz hcl ho hil hdep' K' fun a' w' hJ'=>hK' _ _ (ih _ _ _ ?_ (by simpa using hsz) ?_ hJ')
  ·rw [Array.toList_setIfInBounds]
   have h2:ld.toList[i]?=some false:=by simp [hsz,hi] at hil ⊢;exact hil
   have:=count_set1 ld.toList i h2
   omega
  ·intro j p hp hlj e he
   by_cases hji:j=i
   ·subst hji
    have:p=o:=by simp at hp;rw [ho] at hp;injection hp with hp;exact hp.symm
    subst this
    have h3:=hdep' e he
    by_cases hej:e.on=j
    ·rw [hej];exact lget_set_eq (by omega)
    ·show (ld.setIfInBounds j true).getD e.on false=true
     rw [lget_set_ne hej];exact h3
   ·have hlj':ld.getD j false=true:=by
     have:(ld.setIfInBounds i true).getD j false=true:=hlj
     rwa [lget_set_ne hji] at this
    have h3:=hcl j p hp hlj' e he
    by_cases hei:e.on=i
    ·show (ld.setIfInBounds i true).getD e.on false=true
     rw [hei];exact lget_set_eq (by omega)
    ·show (ld.setIfInBounds i true).getD e.on false=true
     rw [lget_set_ne hei];exact h3
theorem region_any {ops:Array Oper} {id:Nat} {Ts:Nat→Tp} {Hs:Nat→Hp} {rds wrs:Nat→List Nat} (hm:P.follows .mixedOrders=true) (hdl:dstsLt ops.toList n=true)
 (hstep:∀ j o,ops.toList[j]?=some o→StepT P ops m j o (Ts j) (Hs j) (rds j) (wrs j) (Ts (j + 1)) (Hs (j + 1))) (hind:indep ops ((List.range ops.size).map fun j=>(rds j,wrs j)).reverse=true)
 {a:Act} {w:World} (hs:Sim B n m (Ts 0) (Hs 0) a w) :
 (Code.region id ops true).wp P (fun e a' w'=>e=.normal∧Sim B n (m + ops.size) (Ts ops.size) (Hs ops.size) a' w') a w:=by
 unfold indep at hind
 simp only [Bool.and_eq_true,List.reverse_reverse] at hind
 obtain ⟨hed,hia⟩:=hind
 let WT:Nat→Nat→Bool:=fun t j=>match ops[j]? with
  | some o=>o.dst == some t
  | none=>false
 let WH:Nat→Nat→Bool:=fun r j=>(wrs j).contains r
 have hmask:=masks_ok ops.toList ops.toList [] [] rfl rfl (fun j mk h=>by simp at h)
 -- earlier before later
 have key:∀ (i j:Nat) (p q:Oper),i < j→ops[i]?=some p→ops[j]?=some q→clashO ops p q (rds i,wrs i) (rds j,wrs j)=true→∀ S,ClosedL ops.toList S→(∀ e∈bEdges q,S e.on=true)→S i=true:=by
  intro i j p q hij hp hq hc S hS hd
  have hj:j < ops.size:=(Array.getElem?_eq_some_iff.1 hq).1
  have hi:i < ops.size:=by omega
  obtain ⟨mk,hmk⟩:∃ mk,(masks ops.toList [])[j]?=some mk:=by
   have hl:j < (masks ops.toList []).length:=by rw [masks_len];simpa using hj
   exact ⟨_,List.getElem?_eq_getElem hl⟩
  have h1:=indepAll_at (j:=j) (o:=q) (fo:=(rds j,wrs j)) (mk:=mk) hia (by simpa using hq) (by simp [hj]) hmk
  rw [Nat.zero_add] at h1
  have h2:=indepOne_at (i:=i) (p:=p) (fp:=(rds i,wrs i)) h1 (by rw [List.getElem?_take];simp [hij];exact hp) (by rw [List.getElem?_take];simp [hij,hi]) hc
  rw [Nat.zero_add] at h2
  exact hmask j mk hmk S hS q (by simpa using hq) hd i h2
 have hTw:∀ t j,j < ops.size→WT t j=false→Ts (j + 1) t=Ts j t:=by
  intro t j hj hw
  obtain ⟨o,ho⟩:∃ o,ops[j]?=some o:=⟨ops[j],by rw [Array.getElem?_eq_getElem]⟩
  have hne:o.dst≠some t:=by
   intro e
   simp only [WT,ho,e] at hw
   simp at hw
  rcases hstep j o (by simpa using ho) with ⟨_,v,_,hT⟩|⟨_,hT,_⟩<;>rw [hT]<;>(cases hd:o.dst with
   | none=>rfl
   | some d=>exact up_ne (fun e=>hne (by rw [hd,e])))
 have hHw:∀ r j,j < ops.size→WH r j=false→Hs (j + 1) r=Hs j r:=by
  intro r j hj hw
  obtain ⟨o,ho⟩:∃ o,ops[j]?=some o:=⟨ops[j],by rw [Array.getElem?_eq_getElem]⟩
  rcases hstep j o (by simpa using ho) with ⟨_,v,hLO,_⟩|⟨_,_,hH,_⟩
  ·exact hLO.1 r (by simpa [WH] using hw)
  ·rw [hH]
 let Tc:Array Bool→Tp:=fun ld t=>Ts (lastW (fun j=>ld.getD j false) (WT t) ops.size) t
 let Hc:Array Bool→Hp:=fun ld r=>Hs (lastW (fun j=>ld.getD j false) (WH r) ops.size) r
 let J:Array Bool→Act→World→Prop:=fun ld a w=>SimF B n (fun r=>m + ops.size≤r∨∃ i,i < ops.size∧r=m + i∧ld.getD i false=false) (Tc ld) (Hc ld) a w
 have hWT:∀ t j,WT t j=true→∃ p,ops[j]?=some p∧p.dst=some t:=by
  intro t j h
  simp only [WT] at h
  cases hp:ops[j]? with
  | none=>rw [hp] at h;cases h
  | some p=>rw [hp] at h;exact ⟨p,rfl,by simpa using h⟩
 have h0:∀ i,(Array.replicate ops.size false).getD i false=false:=fun i=>by
  simp only [Array.getD_eq_getD_getElem?,Array.getElem?_replicate]
  split<;>rfl
 refine wp_region_any hm (wpAny_J0 (P:=P) (ops:=ops) J hed ?_ ?_ ops.size (Array.replicate ops.size false) a _ (by simp) (by simp) (fun i o _ hi=>by simp only [h0] at hi;cases hi) ?_)
 ·-- a step
  intro ld a w i o hJ hsz hcl ho hil hdep K hK
  have hi:i < ops.size:=(Array.getElem?_eq_some_iff.1 ho).1
  have hol:ops.toList[i]?=some o:=by simpa using ho
  have hd:=dstsLt_at hdl hol
  -- no later one has written what this one touches
  have lateT:∀ t,(t∈slotsR ops o∨o.dst=some t)→∀ j,i≤j→j < ops.size→ld.getD j false=true→WT t j=false:=by
   intro t ht j hij hj hlj
   by_cases hji:j=i
   ·subst hji;rw [hil] at hlj;cases hlj
   ·cases hw:WT t j with
    | false=>rfl
    | true =>
     exfalso
     obtain ⟨p,hp,hpt⟩:=hWT t j hw
     have hc:clashO ops o p (rds i,wrs i) (rds j,wrs j)=true:=by
      unfold clashO
      rw [clash_of (x:=t) (by
       rcases ht with ht|ht
       ·exact .inr ⟨ht,by simp [slotsW,hpt]⟩
       ·exact .inl ⟨by simp [slotsW,ht],.inr (by simp [slotsW,hpt])⟩)]
      rfl
     have:=key i j o p (by omega) ho hp hc _ hcl (hcl j p (by simpa using hp) hlj)
     rw [hil] at this
     cases this
  have lateH:∀ r,(r∈rds i∨r∈wrs i)→∀ j,i≤j→j < ops.size→ld.getD j false=true→WH r j=false:=by
   intro r hr j hij hj hlj
   by_cases hji:j=i
   ·subst hji;rw [hil] at hlj;cases hlj
   ·cases hw:WH r j with
    | false=>rfl
    | true =>
     exfalso
     obtain ⟨p,hp⟩:∃ p,ops[j]?=some p:=⟨ops[j],by rw [Array.getElem?_eq_getElem]⟩
     have hwr:r∈wrs j:=by simpa [WH] using hw
     have hc:clashO ops o p (rds i,wrs i) (rds j,wrs j)=true:=by
      unfold clashO
      rw [clash_of (x:=r) (r1:=rds i) (w1:=wrs i) (r2:=rds j) (w2:=wrs j) (by
       rcases hr with hr|hr
       ·exact .inr ⟨hr,hwr⟩
       ·exact .inl ⟨hr,.inr hwr⟩)]
      simp
     have:=key i j o p (by omega) ho hp hc _ hcl (hcl j p (by simpa using hp) hlj)
     rw [hil] at this
     cases this
  have readT:∀ t,(t∈slotsR ops o∨o.dst=some t)→Tc ld t=Ts i t:=by
   intro t ht
   refine lastW_read (fun j=>ld.getD j false) (WT t) (fun j=>Ts j t) ops.size i (hTw t) (by omega) (lateT t ht) fun j hj hw=>?_
   obtain ⟨p,hp,hpt⟩:=hWT t j hw
   refine key j i p o hj hp ho ?_ _ hcl hdep
   unfold clashO
   rw [clash_of (x:=t) (.inl ⟨by simp [slotsW,hpt],by
    rcases ht with ht|ht
    ·exact .inl ht
    ·exact .inr (by simp [slotsW,ht])⟩)]
   rfl
  have readH:∀ r,(r∈rds i∨r∈wrs i)→Hc ld r=Hs i r:=by
   intro r hr
   refine lastW_read (fun j=>ld.getD j false) (WH r) (fun j=>Hs j r) ops.size i (hHw r) (by omega) (lateH r hr) fun j hj hw=>?_
   obtain ⟨p,hp⟩:∃ p,ops[j]?=some p:=⟨ops[j]'(by omega),by rw [Array.getElem?_eq_getElem]⟩
   refine key j i p o hj hp ho ?_ _ hcl hdep
   have hwr:r∈wrs j:=by simpa [WH] using hw
   unfold clashO
   rw [clash_of (x:=r) (r1:=rds j) (w1:=wrs j) (r2:=rds i) (w2:=wrs i) (.inl ⟨hwr,hr⟩)]
   simp
  have hset:∀ j,j≠i→(fun j=>(ld.setIfInBounds i true).getD j false) j=(fun j=>ld.getD j false) j:=fun j hj=>lget_set_ne hj
  have hseti:(fun j=>(ld.setIfInBounds i true).getD j false) i=true:=lget_set_eq (by omega)
  have Tset:∀ v,Ts (i + 1)=putT (Ts i) o.dst v→Tc (ld.setIfInBounds i true)=putT (Tc ld) o.dst v:=by
   intro v hT
   funext t
   by_cases ht:o.dst=some t
   ·have hWi:WT t i=true:=by simp [WT,ho,ht]
    have:=lastW_new (S:=fun j=>ld.getD j false) (S':=fun j=>(ld.setIfInBounds i true).getD j false) (W:=WT t) (n:=ops.size) hi hseti hWi hset (fun j hij hj hS=>lateT t (.inr ht) j (by omega) hj hS)
    show Ts (lastW _ _ _) t=_
    rw [this,hT,ht]
    simp only [putT,up_at]
   ·have hWi:WT t i=false:=by simp [WT,ho,ht]
    have:=lastW_same (S:=fun j=>ld.getD j false) (S':=fun j=>(ld.setIfInBounds i true).getD j false) (W:=WT t) (n:=ops.size) hWi hset
    show Ts (lastW _ _ _) t=_
    rw [this]
    cases hdd:o.dst with
    | none=>rfl
    | some d=>exact (up_ne (fun e=>ht (by rw [hdd,e]))).symm
  have Hset:Hc (ld.setIfInBounds i true)=ovr (Hc ld) (wrs i) (Hs (i + 1)):=by
   funext r
   unfold ovr
   by_cases hr:r∈wrs i
   ·have hWi:WH r i=true:=by simp [WH,hr]
    have:=lastW_new (S:=fun j=>ld.getD j false) (S':=fun j=>(ld.setIfInBounds i true).getD j false) (W:=WH r) (n:=ops.size) hi hseti hWi hset (fun j hij hj hS=>lateH r (.inr hr) j (by omega) hj hS)
    rw [if_pos hr]
    show Hs (lastW _ _ _) r=_
    rw [this]
   ·have hWi:WH r i=false:=by simp [WH,hr]
    have:=lastW_same (S:=fun j=>ld.getD j false) (S':=fun j=>(ld.setIfInBounds i true).getD j false) (W:=WH r) (n:=ops.size) hWi hset
    rw [if_neg hr]
    show Hs (lastW _ _ _) r=_
    rw [this]
  have hFr:∀ r,(m + ops.size≤r∨∃ i',i' < ops.size∧r=m + i'∧(ld.setIfInBounds i true).getD i' false=false)→(m + ops.size≤r∨∃ i',i' < ops.size∧r=m + i'∧ld.getD i' false=false)∧r≠m + i:=by
   intro r hr
   rcases hr with hr|⟨i',hi',rfl,hl⟩
   ·exact ⟨.inl hr,by omega⟩
   ·have hne:i'≠i:=fun e=>by rw [e] at hl;rw [lget_set_eq (by omega)] at hl;cases hl
    rw [lget_set_ne hne] at hl
    exact ⟨.inr ⟨i',hi',rfl,hl⟩,by omega⟩
  have hwant:∀ b,runsT ops (Ts i) o=some b→Region.wanted o (yielded ops a.tmps)=b:=fun b hb=>hJ.wanted (by rw [runsT_congr fun t ht=>readT t (.inl ht)];exact hb)
  rcases hstep i o hol with ⟨hg,v,hLO,hT⟩|⟨hg,hT,hH,hrd,hwr⟩
  ·rw [hwant _ hg,if_pos rfl]
   have hsop:=hLO.2 (ev (Tc ld)) (Hc ld) (fun x hx=>by
    cases x with
    | tmp t=>exact readT t (.inl (by simp only [slotsR,List.mem_append,List.mem_filterMap];exact .inl ⟨.tmp t,by simpa using hx,rfl⟩))
    | const u=>rw [ev_const,ev_const]
    | _=>rfl) readH
   refine hJ.step hsop (.inr ⟨i,hi,rfl,hil⟩) (by have:=hs.1;omega) hd fun a' w' hs'=>hK _ _ ?_
   show SimF B n _ (Tc (ld.setIfInBounds i true)) (Hc (ld.setIfInBounds i true)) a' w'
   rw [Tset v hT,Hset]
   obtain ⟨X,φ,h1,h2,h3,h4,h5,h6⟩:=hs'
   exact ⟨X,φ,h1,h2,h3,h4,h5,fun r hr=>h6 r (hFr r hr)⟩
  ·rw [hwant _ hg,if_neg (by decide)]
   refine hK _ _ ?_
   show SimF B n _ (Tc (ld.setIfInBounds i true)) (Hc (ld.setIfInBounds i true)) _ w
   rw [Tset _ hT,Hset,hwr,ovr_nil]
   obtain ⟨X,φ,h1,h2,h3,h4,h5,h6⟩:=SimF.skip hJ hd
   exact ⟨X,φ,h1,h2,h3,h4,h5,fun r hr=>h6 r (hFr r hr).1⟩
 ·-- the end
  intro ld a w hJ hsz hall
  refine ⟨rfl,by have:=hs.1;omega,?_⟩
  have hT:Tc ld=Ts ops.size:=by
   funext t
   exact lastW_read (fun j=>ld.getD j false) (WT t) (fun j=>Ts j t) ops.size ops.size (hTw t) (Nat.le_refl _) (fun j h1 h2=>by omega) (fun j hj _=>hall j hj)
  have hH:Hc ld=Hs ops.size:=by
   funext r
   exact lastW_read (fun j=>ld.getD j false) (WH r) (fun j=>Hs j r) ops.size ops.size (hHw r) (Nat.le_refl _) (fun j h1 h2=>by omega) (fun j hj _=>hall j hj)
  rw [← hT,← hH]
  obtain ⟨X,φ,h1,h2,h3,h4,h5,h6⟩:=hJ
  exact ⟨X,φ,h1,h2,h3,h4,h5,fun r hr=>h6 r (.inl hr)⟩
 ·-- the start
  have hT:Tc (Array.replicate ops.size false)=Ts 0:=by
   funext t
   show Ts (lastW _ _ _) t=_
   rw [lastW_none h0]
  have hH:Hc (Array.replicate ops.size false)=Hs 0:=by
   funext r
   show Hs (lastW _ _ _) r=_
   rw [lastW_none h0]
  show SimF B n _ (Tc _) (Hc _) a _
  rw [hT,hH]
  obtain ⟨X,φ,h1,h2,h3,h4,h5,h6⟩:=hs.2
  refine ⟨X,φ,⟨h1.os,h1.tape,h1.output,h1.size,h1.same,h1.bs,h1.xs,h1.xk,h1.ph,h1.lv⟩,h2,h3,?_,fun t v ht=>?_,fun r hr=>h6 r (by rcases hr with hr|⟨i,_,rfl,_⟩<;>omega)⟩
  ·exact h4.heap rfl
  ·exact (h5 t v ht).keep (Nat.le_refl _) (fun _ _ _=>rfl) (fun _ _=>rfl) (fun _ _ h=>h) (fun _ _ h=>h)
end
def AV.pure:AV→Bool
 | .tup vs=>vs.all AV.pure2
 | a=>a.pure2
section
variable {X:Nat→Prop} {w:World} {φ φ':Em} {v:Value} {a:AV}
theorem Rep.pure1 (h:Rep X w φ v a) (hp:a.pure1=true):Rep X w φ' v a:=by
 cases h with
 | base v=>exact .base v
 | nils=>exact .nils
 | agg _ _ _ _ _=>simp [AV.pure1] at hp
 | tup _ _ _ _=>simp [AV.pure1] at hp
 | mref _ _ _ _=>simp [AV.pure1] at hp
 | own _ _ _ _ _ _=>simp [AV.pure1] at hp
 | cloo=>simp [AV.pure1] at hp
 | clom=>simp [AV.pure1] at hp
 | tyOf=>simp [AV.pure1] at hp
 | oslt=>simp [AV.pure1] at hp
 | oslt0=>simp [AV.pure1] at hp
 | oslc=>simp [AV.pure1] at hp
 | oslc0=>simp [AV.pure1] at hp
 | ownt=>simp [AV.pure1] at hp
 | osl _ _ _ _ _ _ _ _ _ _=>simp [AV.pure1] at hp
 | osl0 _ _ _ _=>simp [AV.pure1] at hp
 | imm cs off b o us hb hx h1 hc h=>exact .imm cs off b o us hb hx h1 hc h
 | isl0 A cap=>exact .isl0 A cap
 | clo g vs cs hl h=>exact .clo g vs cs hl h
 | app=>simp [AV.pure1] at hp
 | isl cs len cap b o us hb hx hcap h1 hc h=>exact .isl cs len cap b o us hb hx hcap h1 hc h
theorem Rep.pure2 (h:Rep X w φ v a) (hp:a.pure2=true):Rep X w φ' v a:=by
 by_cases hq:∃ cs,a=.agg cs
 ·obtain ⟨cs,rfl⟩:=hq
  cases h with
  | agg vs _ hl h1 h=>exact .agg vs cs hl h1 fun i v c hv hc=>(h i v c hv hc).pure1 (List.all_eq_true.1 hp c (List.mem_of_getElem? hc))
 ·refine h.pure1 ?_
  cases a<;>first|exact hp|(exact absurd ⟨_,rfl⟩ hq)
theorem Rep.pure (h:Rep X w φ v a) (hp:a.pure=true):Rep X w φ' v a:=by
 by_cases hq:∃ vs,a=.tup vs
 ·obtain ⟨vs,rfl⟩:=hq
  cases h with
  | tup us _ hl h=>exact .tup us vs hl fun i v c hv hc=>(h i v c hv hc).pure2 (List.all_eq_true.1 hp c (List.mem_of_getElem? hc))
 ·refine h.pure2 ?_
  cases a<;>first|exact hp|(exact absurd ⟨_,rfl⟩ hq)
end
def W (P:Program) (k n:Nat) (c:Code) (m:Nat) (T:Tp) (H:Hp) (K:Exit→Nat→Tp→Hp→Prop):Prop :=
 ∃ e m' T' H',K e m' T' H'∧∀ B:Base,B.k=k→∀ a w,Sim B n m T H a w→c.wp P (fun e' a' w'=>e'=e∧Sim B n m' T' H' a' w') a w
def thenK (next:Nat→Tp→Hp→Prop) (K:Exit→Nat→Tp→Hp→Prop):Exit→Nat→Tp→Hp→Prop
 | .normal,m,T,H=>next m T H
 | e,m,T,H=>K e m T H
def blockK (id:Nat) (K:Exit→Nat→Tp→Hp→Prop):Exit→Nat→Tp→Hp→Prop
 | .exit j,m,T,H=>match Nat.beq j id with
  | true=>K .normal m T H
  | false=>K (.exit j) m T H
 | e,m,T,H=>K e m T H
section
variable {P:Program} {k n m:Nat} {T:Tp} {H:Hp} {K:Exit→Nat→Tp→Hp→Prop}
theorem W.mono {c:Code} {K':Exit→Nat→Tp→Hp→Prop} (h:W P k n c m T H K) (hk:∀ e m T H,K e m T H→K' e m T H):W P k n c m T H K':=by
 obtain ⟨e,m',T',H',h1,h2⟩:=h
 exact ⟨e,m',T',H',hk _ _ _ _ h1,h2⟩
theorem W.seq {x y:Code} (h:W P k n x m T H (thenK (fun m T H=>W P k n y m T H K) K)):W P k n (.seq x y) m T H K:=by
 obtain ⟨e,m',T',H',h1,h2⟩:=h
 cases e with
 | normal =>
  obtain ⟨e2,m2,T2,H2,h3,h4⟩:=h1
  exact ⟨e2,m2,T2,H2,h3,fun B hB a w hs=>wp_seq (wp_mono (h2 B hB a w hs) fun e a w ⟨he,hs'⟩=>by subst he;exact h4 B hB a w hs')⟩
 | exit j=>exact ⟨_,m',T',H',h1,fun B hB a w hs=>wp_seq (wp_mono (h2 B hB a w hs) fun e a w ⟨he,hs'⟩=>by subst he;exact ⟨rfl,hs'⟩)⟩
 | goto l=>exact ⟨_,m',T',H',h1,fun B hB a w hs=>wp_seq (wp_mono (h2 B hB a w hs) fun e a w ⟨he,hs'⟩=>by subst he;exact ⟨rfl,hs'⟩)⟩
 | ret=>exact ⟨_,m',T',H',h1,fun B hB a w hs=>wp_seq (wp_mono (h2 B hB a w hs) fun e a w ⟨he,hs'⟩=>by subst he;exact ⟨rfl,hs'⟩)⟩
 | panic ch=>exact ⟨_,m',T',H',h1,fun B hB a w hs=>wp_seq (wp_mono (h2 B hB a w hs) fun e a w ⟨he,hs'⟩=>by subst he;exact ⟨rfl,hs'⟩)⟩
 | outgrown=>exact ⟨_,m',T',H',h1,fun B hB a w hs=>wp_seq (wp_mono (h2 B hB a w hs) fun e a w ⟨he,hs'⟩=>by subst he;exact ⟨rfl,hs'⟩)⟩
theorem W.skip (h:K .normal m T H):W P k n .skip m T H K:=⟨_,_,_,_,h,fun _B _hB _a _w hs=>wp_skip ⟨rfl,hs⟩⟩
theorem W.exit {id:Nat} (h:K (.exit id) m T H):W P k n (.exit id) m T H K:=⟨_,_,_,_,h,fun _B _hB _a _w hs=>wp_exit ⟨rfl,hs⟩⟩
theorem W.ret (h:K .ret m T H):W P k n .ret m T H K:=⟨_,_,_,_,h,fun _B _hB _a _w hs=>wp_ret ⟨rfl,hs⟩⟩
theorem SimF.eval {B:Base} {Fr:Nat→Prop} {a:Act} {w:World} {x:Operand} {b:Bool} (hs:SimF B n Fr T H a w) (h:ev T x=some (.base (.bool b))):a.eval x=.bool b:=by
 obtain ⟨X,φ,h1,h2,h3,h4,h5,h6⟩:=hs
 cases x with
 | tmp t=>exact (h5 t _ h).base_eq
 | const u =>
  rw [ev_const] at h
  injection h with h
  unfold absC at h
  split at h
  ·cases h
  ·injection h with h
 | global g=>cases h
 | func g=>injection h with h;injection h with h
theorem W.cond {x:Operand} {c d:Code} {b:Bool} (hx:ev T x=some (.base (.bool b))) (ht:b=true→W P k n c m T H K) (hf:b=false→W P k n d m T H K):W P k n (.cond x c d) m T H K:=by
 cases b with
 | true =>
  obtain ⟨e,m',T',H',h1,h2⟩:=ht rfl
  exact ⟨e,m',T',H',h1,fun B hB a w hs=>wp_cond_true (hs.2.eval hx) (h2 B hB a w hs)⟩
 | false =>
  obtain ⟨e,m',T',H',h1,h2⟩:=hf rfl
  exact ⟨e,m',T',H',h1,fun B hB a w hs=>wp_cond_false (hs.2.eval hx) (h2 B hB a w hs)⟩
theorem W.cond_t {x:Operand} {c d:Code} {b:Bool} (hx:ev T x=some (.base (.bool b))) (hb:b=true) (ht:W P k n c m T H K):W P k n (.cond x c d) m T H K :=
 W.cond hx (fun _=>ht) (fun h=>by rw [hb] at h;cases h)
theorem W.cond_f {x:Operand} {c d:Code} {b:Bool} (hx:ev T x=some (.base (.bool b))) (hb:b=false) (hf:W P k n d m T H K):W P k n (.cond x c d) m T H K :=
 W.cond hx (fun h=>by rw [hb] at h;cases h) (fun _=>hf)
theorem W.block {id:Nat} {c:Code} (h:W P k n c m T H (blockK id K)):W P k n (.block id c) m T H K:=by
 obtain ⟨e,m',T',H',h1,h2⟩:=h
 by_cases he:e=.exit id
 ·subst he
  simp only [blockK,Nat.beq_refl] at h1
  exact ⟨.normal,m',T',H',h1,fun B hB a w hs=>wp_block (wp_mono (h2 B hB a w hs) fun e a w ⟨he,hs'⟩=>by subst he;simp only [Exit.inBlock,if_true];first|exact ⟨rfl,hs'⟩|exact ⟨trivial,hs'⟩)⟩
 ·refine ⟨e,m',T',H',?_,fun B hB a w hs=>wp_block (wp_mono (h2 B hB a w hs) fun e' a w ⟨he',hs'⟩=>?_)⟩
  ·cases e<;>try exact h1
   rename_i j
   simp only [blockK] at h1
   have hb:Nat.beq j id=false:=by
    cases hb:Nat.beq j id with
    | true=>exact absurd (by rw [Nat.eq_of_beq_eq_true hb]) he
    | false=>rfl
   rwa [hb] at h1
  ·subst he'
   cases e'<;>try exact ⟨rfl,hs'⟩
   rename_i j
   simp only [Exit.inBlock]
   rw [if_neg (fun e=>he (by rw [e]))]
   first|exact ⟨rfl,hs'⟩|exact ⟨trivial,hs'⟩
def WLn (P:Program) (k n:Nat) (c:Code) (K:Exit→Nat→Tp→Hp→Prop):Nat→Nat→Tp→Hp→Prop
 | 0,_,_,_=>False
 | r + 1,m,T,H=>W P k n c m T H (thenK (fun m T H=>WLn P k n c K r m T H) K)
def WL (P:Program) (k n:Nat) (c:Code) (m:Nat) (T:Tp) (H:Hp) (K:Exit→Nat→Tp→Hp→Prop):Prop:=∃ r,WLn P k n c K r m T H
theorem WL.step {c:Code} (h:W P k n c m T H (thenK (fun m T H=>WL P k n c m T H K) K)):WL P k n c m T H K:=by
 obtain ⟨e,m',T',H',h1,h2⟩:=h
 cases e with
 | normal =>
  obtain ⟨r,hr⟩:=h1
  exact ⟨r + 1,.normal,m',T',H',hr,h2⟩
 | exit j=>exact ⟨1,.exit j,m',T',H',h1,h2⟩
 | goto l=>exact ⟨1,.goto l,m',T',H',h1,h2⟩
 | ret=>exact ⟨1,.ret,m',T',H',h1,h2⟩
 | panic ch=>exact ⟨1,.panic ch,m',T',H',h1,h2⟩
 | outgrown=>exact ⟨1,.outgrown,m',T',H',h1,h2⟩
theorem W.loop {c:Code} (h:WL P k n c m T H K):W P k n (.loop c) m T H K:=by
 obtain ⟨r,hr⟩:=h
 have key:∀ r m T H,WLn P k n c K r m T H→∃ e m' T' H',K e m' T' H'∧∀ B:Base,B.k=k→∀ a w,Sim B n m T H a w→Code.rounds P c (fun e' a' w'=>e'=e∧Sim B n m' T' H' a' w') r a w:=by
  intro r
  induction r with
  | zero=>intro m T H h;exact h.elim
  | succ r ih =>
   intro m T H h
   obtain ⟨e,m',T',H',h1,h2⟩:=h
   cases e with
   | normal =>
    obtain ⟨e2,m2,T2,H2,h3,h4⟩:=ih m' T' H' h1
    refine ⟨e2,m2,T2,H2,h3,fun B hB a w hs=>?_⟩
    rw [rounds_succ]
    exact wp_mono (h2 B hB a w hs) fun e a w ⟨he,hs'⟩=>by subst he;exact h4 B hB a w hs'
   | exit j=>exact ⟨_,m',T',H',h1,fun B hB a w hs=>by rw [rounds_succ];exact wp_mono (h2 B hB a w hs) fun e a w ⟨he,hs'⟩=>by subst he;exact ⟨rfl,hs'⟩⟩
   | goto l=>exact ⟨_,m',T',H',h1,fun B hB a w hs=>by rw [rounds_succ];exact wp_mono (h2 B hB a w hs) fun e a w ⟨he,hs'⟩=>by subst he;exact ⟨rfl,hs'⟩⟩
   | ret=>exact ⟨_,m',T',H',h1,fun B hB a w hs=>by rw [rounds_succ];exact wp_mono (h2 B hB a w hs) fun e a w ⟨he,hs'⟩=>by subst he;exact ⟨rfl,hs'⟩⟩
   | panic ch=>exact ⟨_,m',T',H',h1,fun B hB a w hs=>by rw [rounds_succ];exact wp_mono (h2 B hB a w hs) fun e a w ⟨he,hs'⟩=>by subst he;exact ⟨rfl,hs'⟩⟩
   | outgrown=>exact ⟨_,m',T',H',h1,fun B hB a w hs=>by rw [rounds_succ];exact wp_mono (h2 B hB a w hs) fun e a w ⟨he,hs'⟩=>by subst he;exact ⟨rfl,hs'⟩⟩
 obtain ⟨e,m',T',H',h1,h2⟩:=key r m T H hr
 exact ⟨e,m',T',H',h1,fun B hB a w hs=>wp_loop_rounds r (h2 B hB a w hs)⟩
theorem Sim.more {B:Base} {s:Nat} {a:Act} {w:World} (h:Sim B n m T H a w) (hs:m≤s):Sim B n s T H a w:=by
 obtain ⟨h0,X,φ,h1,h2,h3,h4,h5,h6⟩:=h
 exact ⟨by omega,X,φ,h1,h2,h3,h4,h5,fun r hr=>h6 r (by omega)⟩
theorem W.region {ops:Array Oper} {id:Nat} (s m':Nat) (hs:m≤s) (hm':s + ops.size=m') (hdl:dstsLt ops.toList n=true) (h:RW P ops s (fun T' H' _=>K .normal m' T' H') 0 ops.toList T H []):W P k n (.region id ops false) m T H K:=by
 obtain ⟨Ts,Hs,rds,wrs,h1,h2,h3,h4⟩:=h.trace
 simp only [Nat.zero_add,Array.length_toList] at h3 h4
 refine ⟨.normal,m',Ts ops.size,Hs ops.size,h4,fun B hB a w hsim=>?_⟩
 subst hm'
 refine region_seq (m:=s) (rds:=rds) (wrs:=wrs) (by have:=hsim.1;omega) hdl h3 ?_
 rw [h1,h2]
 exact hsim.more hs
theorem W.regionD {ops:Array Oper} {id:Nat} (s m':Nat) (hs:m≤s) (hm':s + ops.size=m') (hmx:P.follows .mixedOrders=true) (hdl:dstsLt ops.toList n=true) (h:RW P ops s (fun T' H' acc=>indep ops acc=true∧K .normal m' T' H') 0 ops.toList T H []):W P k n (.region id ops true) m T H K:=by
 obtain ⟨Ts,Hs,rds,wrs,h1,h2,h3,h4⟩:=h.trace
 simp only [Nat.zero_add,Array.length_toList,List.append_nil] at h3 h4
 refine ⟨.normal,m',Ts ops.size,Hs ops.size,h4.2,fun B hB a w hsim=>?_⟩
 subst hm'
 refine region_any (m:=s) (rds:=rds) (wrs:=wrs) hmx hdl h3 h4.1 ?_
 rw [h1,h2]
 exact hsim.more hs
theorem W.forget {c:Code} {T':Tp} {H':Hp} (h:W P k n c m T' H' K) (hT:∀ t v,T' t=some v→T t=some v) (hH:∀ r cs,H' r=some cs→H r=some cs):W P k n c m T H K:=by
 obtain ⟨e,m2,T2,H2,h1,h2⟩:=h
 refine ⟨e,m2,T2,H2,h1,fun B hB a w hs=>h2 B hB a w ?_⟩
 obtain ⟨h0,X,φ,g1,g2,g3,g4,g5,g6⟩:=hs
 exact ⟨h0,X,φ,g1.drop hH,g2,g3,g4.drop hH,fun t v ht=>g5 t v (hT t v ht),g6⟩
end
section
variable {P:Program} {ops:Array Oper} {m i:Nat} {K:Tp→Hp→List (List Nat × List Nat)→Prop} {o:Oper} {l:List Oper} {T:Tp} {H H':Hp} {acc:List (List Nat × List Nat)} {rd wr:List Nat} {v:AV} {d j t:Nat} {b x:Bool}
theorem RW.opd (hg:o.guard=none) (hd:o.dst=some d) (h:LO P o (ev T) H (m + i) rd wr v H') (k:RW P ops m K (i + 1) l (up T d (some v)) H' ((rd,wr)::acc)):RW P ops m K i (o::l) T H acc :=
 .op (by unfold runsT;rw [hg]) h (by rw [hd];exact k)
theorem RW.opn (hg:o.guard=none) (hd:o.dst=none) (h:LO P o (ev T) H (m + i) rd wr v H') (k:RW P ops m K (i + 1) l T H' ((rd,wr)::acc)):RW P ops m K i (o::l) T H acc :=
 .op (by unfold runsT;rw [hg]) h (by rw [hd];exact k)
theorem RW.gd (hg:o.guard=some (j,b)) (hj:dstAt ops j=some t) (ht:T t=some (.base (.bool x))) (hx:x=b) (hd:o.dst=some d) (h:LO P o (ev T) H (m + i) rd wr v H') (k:RW P ops m K (i + 1) l (up T d (some v)) H' ((rd,wr)::acc)):RW P ops m K i (o::l) T H acc :=
 .op (by unfold runsT;rw [hg];simp only [hj,ht,hx];simp) h (by rw [hd];exact k)
theorem RW.sd (hg:o.guard=some (j,b)) (hj:dstAt ops j=some t) (ht:T t=some (.base (.bool x))) (hx:x=!b) (hd:o.dst=some d) (k:RW P ops m K (i + 1) l (up T d (some (.base undef))) H (([],[])::acc)):RW P ops m K i (o::l) T H acc :=
 .skip (by unfold runsT;rw [hg];simp only [hj,ht,hx];cases b<;>rfl) (by rw [hd];exact k)
theorem RW.ud (hg:o.guard=some (j,b)) (hj:dstAt ops j=some t) (ht:T t=some (.base undef)) (hd:o.dst=some d) (k:RW P ops m K (i + 1) l (up T d (some (.base undef))) H (([],[])::acc)):RW P ops m K i (o::l) T H acc :=
 .skip (by unfold runsT;rw [hg];simp only [hj,ht,undef]) (by rw [hd];exact k)
end
def AFn (P:Program) (f:FuncId) (k:Nat) (args:List AV) (H:Hp) (v:AV) (H':Hp):Prop :=
 ∀ (X:Nat→Prop) (φ:Em) (w:World) (vals:Array Value),vals.size=args.length→(∀ (i:Nat) x a,vals[i]?=some x→args[i]?=some a→Rep X w φ x a)→St X φ H w→(∀ r,k≤r→φ r=none) →
  Calls P f vals w fun e w'=>∃ x X' φ',e=.returned x∧Nxt H (fun r=>k≤r) X φ w H' X' φ' w'∧St X' φ' H' w'∧Rep X' w' φ' x v
inductive RV (P:Program) (T:Tp) (H:Hp):ResultVar→AV→Prop
 | tmp {t:Tmp} {v:AV} (h:T t=some v):RV P T H (.tmp t) v
 | cell {t:Tmp} {ty r off:Nat} {cs:List AV} {v:AV} {l:Lay} {s b:Nat} {z:List AV} (h:T t=some (.own r off)) (hH:H r=some cs) (ht:TyOK P ty l s b z) (hg:l.agg=false) (hv:cs[off]?=some v):RV P T H (.cell t ty) v
 | cellA {t:Tmp} {ty r off:Nat} {cs vs:List AV} {l:Lay} {s b:Nat} {z:List AV} (h:T t=some (.own r off)) (hH:H r=some cs) (ht:TyOK P ty l s b z) (hg:l.agg=true) (hv:Tk cs off s vs):RV P T H (.cell t ty) (.agg vs)
inductive RVs (P:Program) (T:Tp) (H:Hp):List ResultVar→List AV→Prop
 | nil:RVs P T H [] []
 | cons {r:ResultVar} {rs:List ResultVar} {v:AV} {vs:List AV} (h:RV P T H r v) (hs:RVs P T H rs vs):RVs P T H (r::rs) (v::vs)
def retOf:List AV→AV
 | [v]=>v
 | vs=>.tup vs
section
variable {P:Program} {T:Tp} {H:Hp} {X:Nat→Prop} {φ:Em} {a:Act} {w:World}
theorem RV.run {r:ResultVar} {v:AV} (h:RV P T H r v) (hst:St X φ H w) (hT:∀ t v,T t=some v→Rep X w φ (a.tmps.getD t undef) v) :
 ∃ x,((match r with|.tmp t=>pure (a.tmps.getD t undef)|.cell q t=>do loadVar t (← asAddr (a.tmps.getD q undef)):Sem Value)).run P w=.ok x w∧Rep X w φ x v:=by
 cases h with
 | tmp h=>exact ⟨_,rfl,hT _ _ h⟩
 | cell h hH ht hg hv =>
  obtain ⟨b,o,hp,e,hbs0⟩:=(hT _ _ h).own_inv
  obtain ⟨c,el,hX,hh,hcs⟩:=hst.cells hH hp (by omega)
  obtain ⟨_,u,hu,hr⟩:=hcs _ _ hv
  refine ⟨u,?_,hr⟩
  simp only [e,asAddr,Sem.run_bind,Sem.run_pure,Result.andThen_ok,loadVar,ht.isAgg,hg,Bool.false_eq_true,if_false]
  exact run_load_at (by rw [cell_of hh];exact hu)
 | cellA h hH ht hg hv =>
  rename_i t ty r off cs vs l s b' z
  obtain ⟨b,o,hp,e,hbs0⟩:=(hT _ _ h).own_inv
  obtain ⟨c,el,hX,hh,hcs⟩:=hst.cells hH hp (by omega)
  obtain ⟨us,h1,h2,h3⟩:=run_cells (P:=P) (X:=X) (φ:=φ) (w:=w) (b:=b) (i:=o + off) vs fun j d hj=>by
   obtain ⟨_,u,hu,hr⟩:=hcs (off + j) d (hv.2 j d hj)
   exact ⟨u,by rw [cell_of hh,Nat.add_assoc];exact hu,hr⟩
  rw [hv.1] at h2
  refine ⟨.agg us,?_,.agg _ _ h1 (fun i d hi=>(hcs _ d (hv.2 i d hi)).1) fun i u d hu hi=>?_⟩
  ·simp only [e,asAddr,Sem.run_bind,Sem.run_pure,Result.andThen_ok,loadVar,ht.isAgg,hg,if_true,ht.sizeOf,h2]
  ·obtain ⟨u',hu',_,hr⟩:=h3 i d hi
   rw [hu] at hu'
   injection hu' with hu'
   subst hu'
   exact hr
theorem RVs.run {rs:List ResultVar} {vs:List AV} (h:RVs P T H rs vs) (hst:St X φ H w) (hT:∀ t v,T t=some v→Rep X w φ (a.tmps.getD t undef) v) :
 ∃ xs:List Value,(rs.mapM fun r=>(match r with|.tmp t=>pure (a.tmps.getD t undef)|.cell q t=>do loadVar t (← asAddr (a.tmps.getD q undef)):Sem Value)).run P w=.ok xs w∧xs.length=vs.length∧∀ (i:Nat) x v,xs[i]?=some x→vs[i]?=some v→Rep X w φ x v:=by
 induction h with
 | nil=>exact ⟨[],rfl,rfl,fun i x v h=>by simp at h⟩
 | cons h _ ih =>
  obtain ⟨x,h1,h2⟩:=h.run hst hT
  obtain ⟨xs,h3,h4,h5⟩:=ih
  refine ⟨x::xs,?_,by simp [h4],fun i y v hy hv=>?_⟩
  ·simp only [List.mapM_cons,Sem.run_bind,h1,Result.andThen_ok,h3,Sem.run_pure]
  ·cases i with
   | zero=>simp at hy hv;subst hy hv;exact h2
   | succ i=>exact h5 i y v (by simpa using hy) (by simpa using hv)
theorem results_run {fn:Func} {vs:List AV} (h:RVs P T H fn.results.toList vs) (hst:St X φ H w) (hT:∀ t v,T t=some v→Rep X w φ (a.tmps.getD t undef) v):∃ x,(results fn a.tmps).run P w=.ok x w∧Rep X w φ x (retOf vs):=by
 obtain ⟨xs,h1,h2,h3⟩:=h.run hst hT
 unfold results
 have he:(fn.results.mapM fun r=>(match r with|.tmp t=>pure (a.tmps.getD t undef)|.cell q t=>do loadVar t (← asAddr (a.tmps.getD q undef)):Sem Value)).run P w=.ok xs.toArray w:=by
  rw [Array.mapM_eq_mapM_toList,Sem.run_map,h1]
  rfl
 refine ⟨if h:xs.toArray.size=1 then xs.toArray[0] else .tuple xs.toArray,?_,?_⟩
 ·rw [Sem.run_bind]
  refine (congrArg (fun r=>Result.andThen r _) he).trans ?_
  simp only [Result.andThen_ok,Sem.run_pure]
 ·by_cases hl:xs.toArray.size=1
  ·rw [dif_pos hl]
   have hl1:xs.length=1:=by simpa using hl
   obtain ⟨x,rfl⟩:=List.length_eq_one_iff.1 hl1
   obtain ⟨v,rfl⟩:=List.length_eq_one_iff.1 (h2 ▸ hl1:vs.length=1)
   exact h3 0 x v rfl rfl
  ·rw [dif_neg hl]
   have hl1:vs.length≠1:=by rw [← h2];simpa using hl
   have hr:retOf vs=.tup vs:=by
    match vs,hl1 with
    | [],_=>rfl
    | [v],h=>exact absurd rfl h
    | _::_::_,_=>rfl
   rw [hr]
   exact .tup _ _ (by simpa using h2) fun i x v hx hv=>h3 i x v (by simpa using hx) hv
end
def RetK (P:Program) (fn:Func) (K:AV→Hp→Prop):Exit→Nat→Tp→Hp→Prop:=fun e _ T H=>(e=.ret∨e=.normal)∧∃ vs H',RVs P T H fn.results.toList vs∧(∀ r cs,H' r=some cs→H r=some cs)∧K (retOf vs) H'
theorem AFn.of_W {P:Program} {f:FuncId} {fn:Func} {code:Code} {k n:Nat} {args:List AV} {H:Hp} {K:AV→Hp→Prop} (hf:P.funcs[f]?=some fn) (hb:fn.body=some code) (hn:fn.ntmps=n) (hl:args.length≤n)
 (h:W P k n code k (fun t=>args[t]?) H (RetK P fn K)):∃ v H',AFn P f k args H v H'∧K v H':=by
 obtain ⟨e,m',T',H',⟨he,vs,H'',hv,hsub,hK⟩,h2⟩:=h
 refine ⟨_,H'',fun X φ w vals hsz hR hst hφ=>?_,hK⟩
 refine calls_of_wp hf hb ?_
 let B:Base:=⟨w,X,φ,H,k⟩
 have hsim:Sim B n k (fun t=>args[t]?) H { tmps:=vals++Array.replicate (fn.ntmps - vals.size) undef,defers:=[] } w:=by
  refine ⟨Nat.le_refl _,X,φ,Nxt.refl _ _ _ _ _,by simp;omega,rfl,hst,fun t v ht=>?_,hφ⟩
  have hlt:t < args.length:=(List.getElem?_eq_some_iff.1 ht).1
  have hlv:t < vals.size:=by omega
  have:(vals++Array.replicate (fn.ntmps - vals.size) undef).getD t undef=vals[t]:=by
   rw [Array.getD_eq_getD_getElem?,Array.getElem?_append,if_pos hlv]
   simp [hlv]
  rw [this]
  exact hR t _ v (by simp [hlv]) ht
 refine wp_mono (h2 B rfl _ _ hsim) fun e' a' w' ⟨he',hs'⟩=>?_
 obtain ⟨_,X',φ',g1,g2,g3,g4,g5,g6⟩:=hs'
 obtain ⟨x,hx,hr⟩:=results_run (a:=a') hv g4 g5
 subst he'
 rcases he with rfl|rfl<;>exact ⟨g3,x,hx,x,X',φ',rfl,g1.drop hsub,g4.drop hsub,hr⟩
def FnOK (P : Program) (g : FuncId) : Prop := ∃ fn : Func, P.funcs[g]? = some fn ∧ (fn.name == "runtime.NumGoroutine") = false ∧ fn.body.isNone = false
theorem run_callFunc_enter {P : Program} {f : FuncId} {fn : Func} (hf : P.funcs[f]? = some fn) (hname : (fn.name == "runtime.NumGoroutine") = false) (hb : fn.body.isNone = false) (args : Array Value) (w : World) : (callFunc f args).run P w = .ok (.enter f args) w := by
 have hp:(program).run P w=.ok P w:=rfl
 unfold callFunc
 rw [Sem.run_bind,hp,Result.andThen_ok]
 simp only [hf,hname,hb,Bool.false_eq_true,if_false]
 rfl
theorem run_call {P:Program} {o:Oper} {g:FuncId} {fn:Func} {xs:Array Operand} {ts:Array TypeId} {ρ:Operand→Value} {w:World} (ho:o.op=.call { callee:=.value (.func g),args:=xs,argTypes:=ts }) (hρ:ρ (.func g)=.func (.func g) #[] #[])
 (hf : P.funcs[g]? = some fn) (hname : (fn.name == "runtime.NumGoroutine") = false) (hb : fn.body.isNone = false) : (execOp ρ o).run P w = .ok (.enter g (xs.map ρ)) w := by
 have he:=run_callFunc_enter hf hname hb (xs.map ρ) w
 simp only [execOp,ho,resolve,hρ,Deferred.ofValue,Sem.run_bind,Sem.run_pure,Result.andThen_ok,invoke]
 simpa using he
end Go.Proofs.YtbfnfgpjgdbmeaaGreatDoor
