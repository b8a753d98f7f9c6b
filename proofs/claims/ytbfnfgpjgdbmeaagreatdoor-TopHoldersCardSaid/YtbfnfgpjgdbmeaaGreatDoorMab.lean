/-
  Calls, giving up what is owned, and new names. New names, things given up, tables of types, and what a law's call means for its world. Calls that hand back a new slice which may be written, and the same slice only read. Branches that meet again: what follows is walked once. Slices of arrays that are only read from then on; nil slices; a new row by append of make. Regions whose guards are not known: both ways; loops and joins that keep what they do not change. What comes in, as the abstract machine sees it: opened by its type. Copying into a slice; slices with a bound on their room; rows of bytes that are not known yet. Copying nothing; a new row of bytes that are not known. A call that takes over a slice and hands a new one back. An empty slice is one that is only read. A block that is only read from now on; a slice of an array that is only read. Appending zeros to what is owned. A slice that is only read, as an array. A call that is handed one block to write, and hands a new one back. Operations on a listed variable. Maps, as functions from keys: made, asked, written. Sets as maps to true; keys that are strings, arrays, structs. Calls that are handed several blocks to write; the bytes of a text. A call that hands back a new slice with a number. Parts of a string; a call of a function that is handed over as a value. Comparing a slice with nil, where it matters whether an empty slice is nil. Calls that hand back several new blocks (a struct of lists that may be written), in regions that do not draw. A call that is handed a map and changes it. Functions that hold on to what they were made over: made, and called. Comparing structs of numbers; rows of parts that are all of one size. Bytes as a string.
-/
import Derived.Test.YtbfnfgpjgdbmeaaGreatDoorMaa
import Derived.Lib.AppendZerosOnto
import Derived.ProofKit
import Derived.OpenShut
import Derived.Lib.MakeNoZero
import Derived.Laws.Externs
import Derived.Maps.Keyed
import Derived.Lib.LazyBuf
import Derived.DeepKeys
import Derived.Laws.BytesArg
namespace Go.Proofs.YtbfnfgpjgdbmeaaGreatDoor
open Go.RowKit
def frX (X:Nat→Prop) (K:Hp) (φ:Em) (fr:List Nat):Nat→Prop:=fun b=>X b∧¬ ∃ r,r∈fr∧∃ cs o,K r=some cs∧φ r=some (b,o)
def frK (K:Hp) (fr:List Nat):Hp:=fun r=>if r∈fr then none else K r
theorem frK_sub {K:Hp} {fr:List Nat}:∀ r cs,frK K fr r=some cs→K r=some cs:=by
 intro r cs h
 unfold frK at h
 split at h
 ·cases h
 ·exact h
section
variable {X:Nat→Prop} {K:Hp} {φ:Em} {w:World} {fr:List Nat}
theorem Rep.frz {v:Value} {a:AV} (h:Rep X w φ v a):Rep (frX X K φ fr) w φ v a :=
 h.keep (Nat.le_refl _) (fun _ _ _=>rfl) (fun _ _=>rfl) (fun _ _ h=>h.1) (fun _ _ h=>h)
theorem Nxt.frz {f:Nat→Prop}:Nxt K f X φ w (frK K fr) (frX X K φ fr) φ w where
 os:=rfl
 tape:=rfl
 output:=rfl
 size:=Nat.le_refl _
 same:=fun _ _ _=>rfl
 bs:=fun _ _=>rfl
 xs:=fun _ _ h=>h.1
 xk:=fun b _ hx=>by
  by_cases h:∃ r,r∈fr∧∃ cs o,K r=some cs∧φ r=some (b,o)
  ·obtain ⟨r,_,cs,o,h1,h2⟩:=h
   exact .inr ⟨r,cs,o,h1,h2⟩
  ·exact .inl ⟨hx,h⟩
 ph:=fun _ _=>rfl
 lv:=fun r cs b o h1 h2=>.inr ⟨r,cs,o,frK_sub r cs h1,h2⟩
theorem St.frz (h:St X φ K w):St (frX X K φ fr) φ (frK K fr) w:=by
 refine ⟨fun r cs hr=>?_,fun r r' cs cs' b o o' h1 h2 h3 h4=>h.2 r r' cs cs' b o o' (frK_sub _ _ h1) (frK_sub _ _ h2) h3 h4,h.gl.sub fun _ h=>h.1⟩
 have hr0:=frK_sub r cs hr
 have hnr:r ∉ fr:=fun hm=>by unfold frK at hr;rw [if_pos hm] at hr;cases hr
 obtain h1|⟨b,o,h1,h2,h3⟩:=h.1 r cs hr0
 ·exact .inl h1
 ·refine .inr ⟨b,o,h1,⟨h2,fun ⟨r',hm,cs',o',h5,h6⟩=>hnr ?_⟩,h3.keep rfl fun v a h=>h.frz⟩
  rw [h.2 r r' cs cs' b o o' hr0 h5 h1 h6];exact hm
theorem lt_heap {b:Nat} {o:Obj} (h:w.heap[b]?=some o):b < w.heap.size:=(Array.getElem?_eq_some_iff.1 h).1
theorem frz_cells {r b o:Nat} {cs:List AV} (hst:St X φ K w) (hm:r∈fr) (hr:K r=some cs) (hp:φ r=some (b,o)) (h0:0 < bsz w b):b < w.heap.size∧¬ frX X K φ fr b∧∀ (i:Nat) c,cs[i]?=some c→c.pure1=true→c.one=true∧∃ u,w.cell? ⟨b,o + i,none⟩=some u∧∀ φ':Em,Rep (frX X K φ fr) w φ' u c:=by
 obtain ⟨c,e,hX,hh,hcs⟩:=hst.cells hr hp (by omega)
 refine ⟨lt_heap hh,fun hx=>hx.2 ⟨r,hm,cs,o,hr,hp⟩,fun i a hi hpu=>?_⟩
 obtain ⟨h1,u,h2,h3⟩:=hcs i a hi
 exact ⟨h1,u,by rw [cell_of hh];exact h2,fun φ'=>(h3.frz).pure1 hpu⟩
theorem Rep.osl_frz {r off len sz:Nat} {cs vs:List AV} {v:Value} {φ':Em} (h:Rep X w φ v (.osl r off len sz)) (hst:St X φ K w) (hm:r∈fr) (hr:K r=some cs) (hv:Tk cs off (len * sz) vs) (hp:vs.all AV.pure1=true):Rep (frX X K φ fr) w φ' v (.isl vs len):=by
 obtain ⟨A,cap,rfl,hc,⟨h1,h2⟩|⟨b,o,hb,hA,hs⟩⟩:=h.osl_inv
 ·subst h1
  have:vs=[]:=List.eq_nil_of_length_eq_zero (by rw [hv.1];simp)
  rw [this]
  exact .isl0 _ _
 ·obtain ⟨g1,g2,g3⟩:=frz_cells (fr:=fr) hst hm hr hb (by omega)
  subst hA
  refine mk_isl hc g1 g2 fun i c hi=>?_
  obtain ⟨h3,u,h4,h5⟩:=g3 _ c (hv.2 i c hi) (List.all_eq_true.1 hp c (List.mem_of_getElem? hi))
  exact ⟨h3,u,by rw [Nat.add_assoc];exact h4,h5⟩
theorem Rep.own_frz {r off:Nat} {cs:List AV} {v:Value} {φ':Em} (h:Rep X w φ v (.own r off)) (hst:St X φ K w) (hm:r∈fr) (hr:K r=some cs) (hp:cs.all AV.pure1=true):Rep (frX X K φ fr) w φ' v (.imm cs off):=by
 obtain ⟨b,o,hb,rfl,hbs0⟩:=h.own_inv
 obtain ⟨g1,g2,g3⟩:=frz_cells (fr:=fr) hst hm hr hb (by omega)
 exact mk_imm off g1 g2 fun i c hi=>g3 i c hi (List.all_eq_true.1 hp c (List.mem_of_getElem? hi))
end
inductive Fz1 (K:Hp) (fr:List Nat):AV→AV→Prop
 | same {a:AV} (h:a.pure1=true):Fz1 K fr a a
 | osl {r off len sz:Nat} {cs vs:List AV} (hm:r∈fr) (hr:K r=some cs) (hv:Tk cs off (len * sz) vs) (hp:vs.all AV.pure1=true):Fz1 K fr (.osl r off len sz) (.isl vs len)
 | own {r off:Nat} {cs:List AV} (hm:r∈fr) (hr:K r=some cs) (hp:cs.all AV.pure1=true):Fz1 K fr (.own r off) (.imm cs off)
inductive FzL (K:Hp) (fr:List Nat):List AV→List AV→Prop
 | nil:FzL K fr [] []
 | cons {a b:AV} {l l':List AV} (h:Fz1 K fr a b) (hs:FzL K fr l l'):FzL K fr (a::l) (b::l')
inductive Fz (K:Hp) (fr:List Nat):AV→AV→Prop
 | pure {a:AV} (h:a.pure=true):Fz K fr a a
 | one {a b:AV} (h:Fz1 K fr a b):Fz K fr a b
 | agg {cs cs':List AV} (h:FzL K fr cs cs'):Fz K fr (.agg cs) (.agg cs')
 | nest {r off len sz:Nat} {cs vs vs':List AV} (hm:r∈fr) (hr:K r=some cs) (hv:Tk cs off (len * sz) vs) (hz:FzL K fr vs vs'):Fz K fr (.osl r off len sz) (.isl vs' len)
theorem FzL.at {K:Hp} {fr:List Nat} {l l':List AV} (h:FzL K fr l l'):l.length=l'.length∧∀ (i:Nat) b,l'[i]?=some b→∃ a,l[i]?=some a∧Fz1 K fr a b:=by
 induction h with
 | nil=>exact ⟨rfl,fun i b h=>by simp at h⟩
 | cons h _ ih =>
  refine ⟨by simp [ih.1],fun i b hi=>?_⟩
  cases i with
  | zero=>simp at hi;subst hi;exact ⟨_,rfl,h⟩
  | succ i=>simpa using ih.2 i b (by simpa using hi)
section
variable {X:Nat→Prop} {K:Hp} {φ φ':Em} {w:World} {fr:List Nat} {v:Value} {a b:AV}
theorem Fz1.rep (h:Fz1 K fr a b) (hst:St X φ K w) (hr:Rep X w φ v a):Rep (frX X K φ fr) w φ' v b:=by
 cases h with
 | same h=>exact hr.frz.pure1 h
 | osl hm hk hv hp=>exact hr.osl_frz hst hm hk hv hp
 | own hm hk hp=>exact hr.own_frz hst hm hk hp
theorem Fz1.one (h:Fz1 K fr a b) (h1:a.one=true):b.one=true:=by
 cases h with
 | same _=>exact h1
 | _=>rfl
theorem Fz.rep (h:Fz K fr a b) (hst:St X φ K w) (hr:Rep X w φ v a):Rep (frX X K φ fr) w φ' v b:=by
 cases h with
 | pure h=>exact hr.frz.pure h
 | one h=>exact h.rep hst hr
 | agg h =>
  cases hr with
  | agg vs _ hl h1 hh =>
   obtain ⟨g1,g2⟩:=h.at
   refine .agg _ _ (by rw [hl,g1]) (fun i c hi=>?_) fun i u c hu hi=>?_
   ·obtain ⟨a,ha,hf⟩:=g2 i c hi
    exact hf.one (h1 i a ha)
   ·obtain ⟨a,ha,hf⟩:=g2 i c hi
    exact hf.rep hst (hh i u a hu ha)
 | nest hm hk hv hz =>
  obtain ⟨g1,g2⟩:=hz.at
  obtain ⟨A,cap,rfl,hc,⟨h1,h2⟩|⟨b,o,hb,hA,hs⟩⟩:=hr.osl_inv
  ·subst h1
   have e0:=g1
   rw [hv.1,Nat.zero_mul] at e0
   rw [List.eq_nil_of_length_eq_zero e0.symm]
   exact .isl0 _ _
  ·subst hA
   obtain ⟨c,e,hX,hh,hcs⟩:=hst.cells hk hb (by omega)
   refine mk_isl hc (lt_heap hh) (fun hx=>hx.2 ⟨_,hm,_,o,hk,hb⟩) fun i d hi=>?_
   obtain ⟨a,ha,hf⟩:=g2 i d hi
   obtain ⟨h3,u,h4,h5⟩:=hcs _ a (hv.2 i a ha)
   exact ⟨hf.one h3,u,by rw [cell_of hh,Nat.add_assoc];exact h4,fun φ2=>hf.rep hst h5⟩
theorem Fz1.congr {K':Hp} (h:Fz1 K fr a b) (hK:∀ r,r∈fr→K' r=K r):Fz1 K' fr a b:=by
 cases h with
 | same h=>exact .same h
 | osl hm hk hv hp=>exact .osl hm ((hK _ hm).trans hk) hv hp
 | own hm hk hp=>exact .own hm ((hK _ hm).trans hk) hp
theorem FzL.congr {K':Hp} {l l':List AV} (h:FzL K fr l l') (hK:∀ r,r∈fr→K' r=K r):FzL K' fr l l':=by
 induction h with
 | nil=>exact .nil
 | cons h _ ih=>exact .cons (h.congr hK) ih
theorem Fz.congr {K':Hp} (h:Fz K fr a b) (hK:∀ r,r∈fr→K' r=K r):Fz K' fr a b:=by
 cases h with
 | pure h=>exact .pure h
 | one h=>exact .one (h.congr hK)
 | agg h =>
  refine .agg ?_
  induction h with
  | nil=>exact .nil
  | cons h _ ih=>exact .cons (h.congr hK) ih
 | nest hm hk hv hz =>
  exact .nest hm ((hK _ hm).trans hk) hv (hz.congr hK)
end
inductive Args (E:Operand→Option AV) (H:Hp) (fr:List Nat) (r:Option Nat):List Operand→List AV→Prop
 | nil:Args E H fr r [] []
 | cons {x:Operand} {xs:List Operand} {a b:AV} {bs:List AV} (hx:E x=some a) (h:Fz H fr a b) (hs:Args E H fr r xs bs):Args E H fr r (x::xs) (b::bs)
 | own {x:Operand} {xs:List Operand} {bs:List AV} {q off:Nat} (hr:r=some q) (hx:E x=some (.own q off)) (hs:Args E H fr r xs bs):Args E H fr r (x::xs) (.own 0 off::bs)
 | osl {x:Operand} {xs:List Operand} {bs:List AV} {q off len sz:Nat} (hr:r=some q) (hx:E x=some (.osl q off len sz)) (hs:Args E H fr r xs bs):Args E H fr r (x::xs) (.osl 0 off len sz::bs)
theorem Args.rep {E:Operand→Option AV} {H K:Hp} {fr:List Nat} {r:Option Nat} {X:Nat→Prop} {φ φ':Em} {w:World} {ρ:Operand→Value} {xs:List Operand} {bs:List AV} (h:Args E H fr r xs bs) (hK:∀ r,r∈fr→K r=H r) (hst:St X φ K w)
 (hR:∀ x,x∈xs→∀ a,E x=some a→Rep X w φ (ρ x) a) (hφ:∀ q,r=some q→φ' 0=φ q):xs.length=bs.length∧∀ (i:Nat) x b,(xs.map ρ)[i]?=some x→bs[i]?=some b→Rep (frX X K φ fr) w φ' x b:=by
 induction h with
 | nil=>exact ⟨rfl,fun i x b h=>by simp at h⟩
 | cons hx h _ ih =>
  obtain ⟨g1,g2⟩:=ih fun y hy=>hR y (by simp [hy])
  refine ⟨by simp [g1],fun i y b hy hb=>?_⟩
  cases i with
  | zero =>
   simp at hy hb
   subst hy hb
   exact (h.congr hK).rep hst (hR _ (by simp) _ hx)
  | succ i=>exact g2 i y b (by simpa using hy) (by simpa using hb)
 | own hr hx _ ih =>
  obtain ⟨g1,g2⟩:=ih fun y hy=>hR y (by simp [hy])
  refine ⟨by simp [g1],fun i y b hy hb=>?_⟩
  cases i with
  | zero =>
   simp at hy hb
   subst hy hb
   obtain ⟨b',o',hp,e,hbs0⟩:=(hR _ (by simp) _ hx).own_inv
   rw [e]
   exact .own 0 _ b' o' (by rw [hφ _ hr];exact hp) hbs0
  | succ i=>exact g2 i y b (by simpa using hy) (by simpa using hb)
 | osl hr hx _ ih =>
  obtain ⟨g1,g2⟩:=ih fun y hy=>hR y (by simp [hy])
  refine ⟨by simp [g1],fun i y b hy hb=>?_⟩
  cases i with
  | zero =>
   simp at hy hb
   subst hy hb
   obtain ⟨A,cap,e,hc,hcase⟩:=(hR _ (by simp) _ hx).osl_inv
   rw [e]
   rcases hcase with ⟨h1,h2⟩|⟨b',o',hp,h1,hs⟩
   ·subst h1 h2;exact .osl0 _ _ _ _
   ·subst h1;exact .osl 0 _ _ _ b' o' cap (by rw [hφ _ hr];exact hp) hc hs
  | succ i=>exact g2 i y b (by simpa using hy) (by simpa using hb)
section
variable {P:Program} {o:Oper} {E:Operand→Option AV} {H:Hp} {f:Nat} {v:AV} {g:FuncId} {xs:Array Operand} {ts:Array TypeId} {args:List AV} {fr:List Nat}
theorem nxt_pure {X X':Nat→Prop} {φ φc φc':Em} {K Hc Hc':Hp} {w w':World} {fc:Nat→Prop} (hst:St X φ K w) (hn:Nxt Hc fc X φc w Hc' X' φc' w') (hown:∀ b o r cs,K r=some cs→φ r=some (b,o)→∀ r' cs' o',Hc r'=some cs'→φc r'≠some (b,o'))
 (hno:∀ r cs b o,Hc r=some cs→φc r=some (b,o)→X b) :
 (∀ v a,Rep X w φ v a→Rep X' w' φ v a)∧St X' φ K w'∧∀ f:Nat→Prop,Nxt K f X φ w K X' φ w'→True:=by
 have hkeep:∀ v a,Rep X w φ v a→Rep X' w' φ v a:=fun v a h=>h.keep hn.size (fun b hb hx=>hn.same b hb fun r cs o h1 h2=>hx (hno r cs b o h1 h2)) hn.bs hn.xs (fun _ _ h=>h)
 refine ⟨hkeep,⟨fun r cs hr=>?_,hst.2,hst.gl.keep hn.size (fun b hb hx=>hn.same b hb fun r cs o h1 h2=>hx (hno r cs b o h1 h2)) hn.xs⟩,fun _ _=>trivial⟩
 obtain h1|⟨b,o',h1,h2,h3⟩:=hst.1 r cs hr
 ·exact .inl h1
 ·refine .inr ⟨b,o',h1,?_,h3.keep (hn.same b h3.lt (hown b o' r cs hr h1)) hkeep⟩
  rcases hn.xk b h3.lt h2 with h5|⟨r',cs',o2,h5,h6⟩
  ·exact h5
  ·exact absurd h6 (hown b o' r cs hr h1 r' cs' o2 h5)
theorem ovr_frK {K:Hp} (_hK:∀ r,r∈fr→K r=H r):ovr K fr (frK H fr)=frK K fr:=by
 funext r
 unfold ovr frK
 split<;>rfl
theorem LO.call0 (ho:o.op=.call { callee:=.value (.func g),args:=xs,argTypes:=ts }) (hE:E (.func g)=some (.base (.func (.func g) #[] #[]))) (h:AFn P g 0 args mt v mt) (hF:FnOK P g)
 (hargs:Args E H fr none xs.toList args) (hv:v.pure=true):LO P o E H f [] fr v (frK H fr):=by
 refine ⟨fun r hr=>if_neg hr,fun E' K hE' hK X φ w ρ hR hst hff=>?_⟩
 have hKf:∀ r,r∈fr→K r=H r:=fun r hr=>hK r (.inr hr)
 rw [ovr_frK hKf]
 obtain ⟨fn,hf,hname,hb⟩:=hF
 have hops:o.op.operands=#[.func g]++xs:=by rw [ho];rfl
 have hρ:ρ (.func g)=.func (.func g) #[] #[]:=(hR (.func g) _ ((hE' _ (by rw [hops];simp)).trans hE)).base_eq
 unfold OpW
 rw [run_call ho hρ hf hname hb]
 obtain ⟨g1,g2⟩:=hargs.rep (K:=K) (X:=X) (φ:=φ) (φ':=mt) (w:=w) (ρ:=ρ) hKf hst (fun x hx a ha=>hR x a ((hE' x (by rw [hops];simp;exact .inr (by simpa using hx))).trans ha)) (fun q h=>by cases h)
 refine (h (frX X K φ fr) mt w (xs.map ρ) (by simp;simpa using g1) (fun i x a hx ha=>g2 i x a (by simpa using hx) ha) ⟨fun r cs h=>(by cases h),fun r r' cs cs' b o o' h=>(by cases h),hst.frz.gl⟩ (fun _ _=>rfl)).mono ?_
 rintro e w' ⟨x,X',φ',rfl,h1,h2,h3⟩
 have hst1:=hst.frz (fr:=fr)
 obtain ⟨k1,k2,_⟩:=nxt_pure hst1 h1 (fun _ _ _ _ _ _ _ _ _ h=>by cases h) (fun _ _ _ _ h=>by cases h)
 refine ⟨x,rfl,X',φ,?_,k2,h3.pure hv⟩
 have hn2:Nxt (frK K fr) (·=f) (frX X K φ fr) φ w (frK K fr) X' φ w' :=
  ⟨h1.os,h1.tape,h1.output,h1.size,fun b hb hn=>h1.same b hb (fun _ _ _ h=>by cases h),h1.bs,h1.xs,fun b hb hx=>(h1.xk b hb hx).imp id fun ⟨_,_,_,h,_⟩=>(by cases h),fun _ _=>rfl,fun r cs b o h1 h2=>.inr ⟨r,cs,o,h1,h2⟩⟩
 exact Nxt.frz.trans hn2 fun _ h=>h
theorem LO.callN {cs:List AV} (ho:o.op=.call { callee:=.value (.func g),args:=xs,argTypes:=ts }) (hE:E (.func g)=some (.base (.func (.func g) #[] #[]))) (h:AFn P g 0 args mt (.own 0 0) (up mt 0 (some cs))) (hF:FnOK P g)
 (hargs:Args E H fr none xs.toList args) (hp:cs.all AV.pure1=true) (hfr:f ∉ fr):LO P o E H f [] (f::fr) (.own f 0) (up (frK H fr) f (some cs)):=by
 refine ⟨fun r hr=>by simp at hr;rw [up_ne hr.1];exact if_neg hr.2,fun E' K hE' hK X φ w ρ hR hst hff=>?_⟩
 have hKf:∀ r,r∈fr→K r=H r:=fun r hr=>hK r (.inr (by simp [hr]))
 have hov:ovr K (f::fr) (up (frK H fr) f (some cs))=up (frK K fr) f (some cs):=by
  funext r
  unfold ovr
  by_cases h1:r=f
  ·subst h1;simp [up_at]
  ·rw [up_ne h1,up_ne h1]
   unfold frK
   by_cases h2:r∈fr<;>simp [h1,h2]
 rw [hov]
 obtain ⟨fn,hf,hname,hb⟩:=hF
 have hops:o.op.operands=#[.func g]++xs:=by rw [ho];rfl
 have hρ:ρ (.func g)=.func (.func g) #[] #[]:=(hR (.func g) _ ((hE' _ (by rw [hops];simp)).trans hE)).base_eq
 unfold OpW
 rw [run_call ho hρ hf hname hb]
 obtain ⟨g1,g2⟩:=hargs.rep (K:=K) (X:=X) (φ:=φ) (φ':=mt) (w:=w) (ρ:=ρ) hKf hst (fun x hx a ha=>hR x a ((hE' x (by rw [hops];simp;exact .inr (by simpa using hx))).trans ha)) (fun q h=>by cases h)
 refine (h (frX X K φ fr) mt w (xs.map ρ) (by simp;simpa using g1) (fun i x a hx ha=>g2 i x a (by simpa using hx) ha) ⟨fun r cs h=>(by cases h),fun r r' cs cs' b o o' h=>(by cases h),hst.frz.gl⟩ (fun _ _=>rfl)).mono ?_
 rintro e w' ⟨x,X',φ',rfl,h1,h2,h3⟩
 have hst1:=hst.frz (fr:=fr)
 obtain ⟨k1,k2,_⟩:=nxt_pure hst1 h1 (fun _ _ _ _ _ _ _ _ _ h=>by cases h) (fun _ _ _ _ h=>by cases h)
 obtain ⟨b,o',hp0,rfl,hbs0⟩:=h3.own_inv
 have hbn:w.heap.size≤b:=by
  rcases h1.lv 0 cs b o' (up_at _ _ _) hp0 with h4|⟨_,_,_,h4,_⟩
  ·exact h4
  ·cases h4
 let φ2:Em:=fun r=>if r=f then some (b,o') else φ r
 have hφf:φ2 f=some (b,o'):=if_pos rfl
 have hφn:∀ r,r≠f→φ2 r=φ r:=fun r h=>if_neg h
 have hφe:∀ r y,φ r=some y→φ2 r=some y:=fun r y h=>by
  rw [hφn r (fun e=>by rw [e,hff] at h;cases h)];exact h
 have hkeep:∀ v a,Rep X' w' φ v a→Rep X' w' φ2 v a:=fun v a h=>h.keep (Nat.le_refl _) (fun _ _ _=>rfl) (fun _ _=>rfl) (fun _ _ h=>h) hφe
 refine ⟨_,rfl,X',φ2,?_,⟨fun r cs1 hr=>?_,fun r1 r2 c1 c2 b1 o1 o2 g1 g2 g3 g4=>?_,h2.gl⟩,.own f 0 b o' hφf hbs0⟩
 ·refine (Nxt.frz (fr:=fr)).trans ⟨h1.os,h1.tape,h1.output,h1.size,fun b hb hn=>h1.same b hb (fun _ _ _ h=>by cases h),h1.bs,h1.xs,fun b hb hx=>(h1.xk b hb hx).imp id fun ⟨_,_,_,h,_⟩=>(by cases h),fun r hr=>hφn r hr,fun r cs1 b1 o1 g1 g2=>?_⟩ fun _ h=>h
  by_cases hr:r=f
  ·subst hr
   rw [hφf] at g2
   injection g2 with g2
   injection g2 with g2 _
   exact .inl (by omega)
  ·rw [up_ne hr] at g1
   rw [hφn r hr] at g2
   exact .inr ⟨r,cs1,o1,g1,g2⟩
 ·by_cases hrf:r=f
  ·subst hrf
   rw [up_at] at hr
   injection hr with hr
   subst hr
   obtain ⟨_,h4⟩|⟨b1,o1,h4,h5,h6⟩:=h2.1 0 cs (up_at _ _ _)
   ·rw [hp0] at h4;cases h4
   ·rw [hp0] at h4
    injection h4 with h4
    injection h4 with e1 e2
    subst e1 e2
    exact .inr ⟨b,o',hφf,h5,h6.keepP rfl fun v a ha h=>h.pure1 (List.all_eq_true.1 hp a ha)⟩
  ·rw [up_ne hrf] at hr
   obtain ⟨i1,i2⟩|⟨b1,o1,i1,i2,i3⟩:=k2.1 r cs1 hr
   ·exact .inl ⟨i1,by rw [hφn r hrf];exact i2⟩
   ·exact .inr ⟨b1,o1,by rw [hφn r hrf];exact i1,i2,i3.keep rfl hkeep⟩
 ·have hlt:∀ r c o2 b2,frK K fr r=some c→φ r=some (b2,o2)→b2 < w.heap.size:=by
   intro r c o2 b2 i1 i2
   obtain ⟨_,i3⟩|⟨b3,o3,i3,_,i4⟩:=hst1.1 r c i1
   ·rw [i3] at i2;cases i2
   ·rw [i3] at i2;injection i2 with i2;injection i2 with i2 _;subst i2;exact i4.lt
  by_cases hr1:r1=f
  ·by_cases hr2:r2=f
   ·rw [hr1,hr2]
   ·exfalso
    rw [up_ne hr2] at g2
    rw [hφn r2 hr2] at g4
    rw [hr1,hφf] at g3
    injection g3 with g3
    injection g3 with g3 _
    have:=hlt r2 c2 o2 b1 g2 g4
    omega
  ·rw [up_ne hr1] at g1
   rw [hφn r1 hr1] at g3
   by_cases hr2:r2=f
   ·exfalso
    rw [hr2,hφf] at g4
    injection g4 with g4
    injection g4 with g4 _
    have:=hlt r1 c1 o1 b1 g1 g3
    omega
   ·rw [up_ne hr2] at g2
    rw [hφn r2 hr2] at g4
    exact k2.2 r1 r2 c1 c2 b1 o1 o2 g1 g2 g3 g4
theorem LO.call1 {q:Nat} {cs cs':List AV} (ho:o.op=.call { callee:=.value (.func g),args:=xs,argTypes:=ts }) (hE:E (.func g)=some (.base (.func (.func g) #[] #[]))) (h:AFn P g 1 args (up mt 0 (some cs)) v (up mt 0 (some cs'))) (hF:FnOK P g)
 (hargs:Args E H fr (some q) xs.toList args) (hH:H q=some cs) (hp:cs.all AV.pure1=true) (hp':cs'.all AV.pure1=true) (h0:cs≠[]) (hqf:q ∉ fr) (hv:v.pure=true):LO P o E H f [] (q::fr) v (up (frK H fr) q (some cs')):=by
 refine ⟨fun r hr=>by simp at hr;rw [up_ne hr.1];exact if_neg hr.2,fun E' K hE' hK X φ w ρ hR hst hff=>?_⟩
 have hKf:∀ r,r∈fr→K r=H r:=fun r hr=>hK r (.inr (by simp [hr]))
 have hKq:K q=some cs:=(hK q (.inr (by simp))).trans hH
 have hov:ovr K (q::fr) (up (frK H fr) q (some cs'))=up (frK K fr) q (some cs'):=by
  funext r
  unfold ovr
  by_cases h1:r=q
  ·subst h1;simp [up_at]
  ·rw [up_ne h1,up_ne h1]
   unfold frK
   by_cases h2:r∈fr<;>simp [h1,h2]
 rw [hov]
 obtain ⟨fn,hf,hname,hb⟩:=hF
 have hops:o.op.operands=#[.func g]++xs:=by rw [ho];rfl
 have hρ:ρ (.func g)=.func (.func g) #[] #[]:=(hR (.func g) _ ((hE' _ (by rw [hops];simp)).trans hE)).base_eq
 unfold OpW
 rw [run_call ho hρ hf hname hb]
 let φc:Em:=fun i=>if i=0 then φ q else none
 obtain ⟨g1,g2⟩:=hargs.rep (K:=K) (X:=X) (φ:=φ) (φ':=φc) (w:=w) (ρ:=ρ) hKf hst (fun x hx a ha=>hR x a ((hE' x (by rw [hops];simp;exact .inr (by simpa using hx))).trans ha)) (fun q' h=>by injection h with h;subst h;exact if_pos rfl)
 have hst1:=hst.frz (fr:=fr)
 have hKq1:frK K fr q=some cs:=by unfold frK;rw [if_neg hqf];exact hKq
 obtain ⟨b0,o0,hq1,hq2,hq3⟩:∃ b o,φ q=some (b,o)∧frX X K φ fr b∧Blk (frX X K φ fr) φ w b o cs:=by
  rcases hst1.1 q cs hKq1 with ⟨h1,_⟩|h1
  ·exact absurd h1 h0
  ·exact h1
 have hc1:∀ r cs1,(up mt 0 (some cs):Hp) r=some cs1→r=0∧cs1=cs:=by
  intro r cs1 hr
  by_cases h1:r=0
  ·subst h1;rw [up_at] at hr;injection hr with hr;exact ⟨rfl,hr.symm⟩
  ·rw [up_ne h1] at hr;cases hr
 have hstc:St (frX X K φ fr) φc (up mt 0 (some cs)) w:=by
  refine ⟨fun r cs1 hr=>?_,fun r r' c c' b o o' i1 i2 _ _=>by rw [(hc1 r c i1).1,(hc1 r' c' i2).1],hst1.gl⟩
  obtain ⟨rfl,rfl⟩:=hc1 r cs1 hr
  exact .inr ⟨b0,o0,by show (if 0=0 then φ q else none)=_;rw [if_pos rfl];exact hq1,hq2,hq3.keepP rfl fun v a ha h=>h.pure1 (List.all_eq_true.1 hp a ha)⟩
 refine (h (frX X K φ fr) φc w (xs.map ρ) (by simp;simpa using g1) (fun i x a hx ha=>g2 i x a (by simpa using hx) ha) hstc (fun r hr=>if_neg (by omega))).mono ?_
 rintro e w' ⟨x,X',φ',rfl,h1,h2,h3⟩
 have hφ0:φ' 0=some (b0,o0):=by rw [h1.ph 0 (by omega)];show (if 0=0 then φ q else none)=_;rw [if_pos rfl];exact hq1
 have hkeep:∀ v a,Rep (frX X K φ fr) w φ v a→Rep X' w' φ v a:=fun v a hr=>hr.keep h1.size (fun b hb hx=>h1.same b hb fun r cs1 o i1 i2=>by
  obtain ⟨rfl,rfl⟩:=hc1 r cs1 i1
  have:φ q=some (b,o):=i2
  rw [hq1] at this
  injection this with this
  injection this with this _
  subst this
  exact hx hq2) h1.bs h1.xs (fun _ _ h=>h)
 have hne:∀ r c b o,r≠q→frK K fr r=some c→φ r=some (b,o)→b≠b0:=fun r c b o i1 i2 i3 i4=>i1 (hst1.2 r q c cs b o o0 i2 hKq1 i3 (by rw [hq1,i4]))
 refine ⟨x,rfl,X',φ,?_,⟨fun r cs1 hr=>?_,fun r1 r2 c1 c2 b1 o1 o2 i1 i2 i3 i4=>?_,h2.gl⟩,h3.pure hv⟩
 ·refine (Nxt.frz (fr:=fr)).trans ⟨h1.os,h1.tape,h1.output,h1.size,fun b hb hn=>h1.same b hb (fun r cs1 o i1 i2=>?_),h1.bs,h1.xs,fun b hb hx=>?_,fun _ _=>rfl,fun r cs1 b1 o1 i1 i2=>?_⟩ fun _ h=>h
  ·obtain ⟨rfl,rfl⟩:=hc1 r cs1 i1
   exact hn q _ o hKq1 i2
  ·rcases h1.xk b hb hx with i1|⟨r,cs1,o,i1,i2⟩
   ·exact .inl i1
   ·obtain ⟨rfl,rfl⟩:=hc1 r cs1 i1
    exact .inr ⟨q,_,o,hKq1,i2⟩
  ·by_cases hr:r=q
   ·subst hr;exact .inr ⟨r,cs,o1,hKq1,i2⟩
   ·rw [up_ne hr] at i1;exact .inr ⟨r,cs1,o1,i1,i2⟩
 ·by_cases hrq:r=q
  ·subst hrq
   rw [up_at] at hr
   injection hr with hr
   subst hr
   obtain ⟨i1,i2⟩|⟨b1,o1,i1,i2,i3⟩:=h2.1 0 cs' (up_at _ _ _)
   ·rw [hφ0] at i2;cases i2
   ·rw [hφ0] at i1
    injection i1 with i1
    injection i1 with e1 e2
    subst e1 e2
    exact .inr ⟨b0,o0,hq1,i2,i3.keepP rfl fun v a ha h=>h.pure1 (List.all_eq_true.1 hp' a ha)⟩
  ·rw [up_ne hrq] at hr
   obtain i1|⟨b1,o1,i1,i2,i3⟩:=hst1.1 r cs1 hr
   ·exact .inl i1
   ·have hbne:=hne r cs1 b1 o1 hrq hr i1
    have hown:∀ r' cs2 o2,(up mt 0 (some cs):Hp) r'=some cs2→φc r'≠some (b1,o2):=fun r' cs2 o2 k1 k2=>by
     obtain ⟨rfl,rfl⟩:=hc1 r' cs2 k1
     have:φ q=some (b1,o2):=k2
     rw [hq1] at this
     injection this with this
     injection this with this _
     exact hbne this.symm
    refine .inr ⟨b1,o1,i1,?_,i3.keep (h1.same b1 i3.lt hown) hkeep⟩
    rcases h1.xk b1 i3.lt i2 with k1|⟨r',cs2,o2,k1,k2⟩
    ·exact k1
    ·exact absurd k2 (hown r' cs2 o2 k1)
 ·have hup:∀ r c,up (frK K fr) q (some cs') r=some c→∃ c',frK K fr r=some c':=fun r c hr=>by
   by_cases hrq:r=q
   ·subst hrq;exact ⟨cs,hKq1⟩
   ·rw [up_ne hrq] at hr;exact ⟨c,hr⟩
  obtain ⟨d1,j1⟩:=hup r1 c1 i1
  obtain ⟨d2,j2⟩:=hup r2 c2 i2
  exact hst1.2 r1 r2 d1 d2 b1 o1 o2 j1 j2 i3 i4
end
abbrev TyRow:=Lay × Nat × Nat × List AV
def lkT:List (Nat × TyRow)→Nat→Option TyRow
 | [],_=>none
 | (k,v)::l,t=>match Nat.beq k t with
  | true=>some v
  | false=>lkT l t
theorem all_mt {α:Type} {p:Nat→α→Prop}:∀ t v,(mt:Nat→Option α) t=some v→p t v:=fun t v h=>by cases h
theorem all_up {α:Type} {p:Nat→α→Prop} {F:Nat→Option α} {k:Nat} {a:α} (h0:p k a) (h:∀ t v,F t=some v→p t v):∀ t v,up F k (some a) t=some v→p t v:=by
 intro t v ht
 by_cases e:t=k
 ·subst e;rw [up_at] at ht;injection ht with ht;subst ht;exact h0
 ·rw [up_ne e] at ht;exact h t v ht
theorem frK_one (H:Hp) (r:Nat):frK H [r]=up H r none:=by
 funext x
 by_cases h:x=r
 ·subst h;simp [frK,up_at]
 ·simp [frK,h,up_ne h]
section
variable {P:Program} {k n m:Nat} {T:Tp} {H:Hp} {K:Exit→Nat→Tp→Hp→Prop} {c:Code}
theorem W.freeze (fr:List Nat) {T':Tp} (hT:∀ t v,T' t=some v→∃ u,T t=some u∧(u=v∨Fz H fr u v)) (h:W P k n c m T' (frK H fr) K):W P k n c m T H K:=by
 obtain ⟨e,m2,T2,H2,h1,h2⟩:=h
 refine ⟨e,m2,T2,H2,h1,fun B hB a w hs=>h2 B hB a w ?_⟩
 obtain ⟨h0,X,φ,g1,g2,g3,g4,g5,g6⟩:=hs
 refine ⟨h0,frX X H φ fr,φ,g1.trans (Nxt.frz (f:=fun _=>False)) (fun _ h=>h.elim),g2,g3,g4.frz,fun t v ht=>?_,g6⟩
 obtain ⟨u,hu,rfl|hf⟩:=hT t v ht
 ·exact (g5 t u hu).frz
 ·exact hf.rep g4 (g5 t u hu)
theorem W.frz1 {t r off len sz:Nat} {cs vs:List AV} (ht:T t=some (.osl r off len sz)) (hr:H r=some cs) (hv:Tk cs off (len * sz) vs) (hp:vs.all AV.pure1=true) (h:W P k n c m (up T t (some (.isl vs len))) (up H r none) K):W P k n c m T H K:=by
 rw [← frK_one] at h
 refine W.freeze [r] (all_up (p:=fun t v=>∃ u,T t=some u∧(u=v∨Fz H [r] u v)) ⟨_,ht,.inr (.one (.osl (by simp) hr hv hp))⟩ fun t v h=>⟨v,h,.inl rfl⟩) h
theorem W.frzc {q j r off len sz:Nat} {cs vs qs qs':List AV} (hq:H q=some qs) (hj:qs[j]?=some (.osl r off len sz)) (hqr:q≠r) (hr:H r=some cs) (hv:Tk cs off (len * sz) vs) (hp:vs.all AV.pure1=true) (hs:Sp qs j [.isl vs len] qs') (h:W P k n c m T (up (up H r none) q (some qs')) K):W P k n c m T H K:=by
 obtain ⟨e,m2,T2,H2,h1,h2⟩:=h
 refine ⟨e,m2,T2,H2,h1,fun B hB a w hsim=>h2 B hB a w ?_⟩
 obtain ⟨h0,X,φ,g1,g2,g3,g4,g5,g6⟩:=hsim
 have hst:=g4.frz (fr:=[r])
 rw [← frK_one]
 have hq1:frK H [r] q=some qs:=by unfold frK;rw [if_neg (by simpa using hqr)];exact hq
 have hnx:=(g1.trans (Nxt.frz (fr:=[r]) (f:=fun _=>False)) (fun _ h=>h.elim))
 have hup:∀ r' c',up (frK H [r]) q (some qs') r'=some c'→∃ c0,frK H [r] r'=some c0:=fun r' c' h=>by
  by_cases e:r'=q
  ·subst e;exact ⟨qs,hq1⟩
  ·rw [up_ne e] at h;exact ⟨c',h⟩
 refine ⟨h0,frX X H φ [r],φ,{ hnx with lv:=fun r' c' b o i1 i2=>by obtain ⟨c0,i3⟩:=hup r' c' i1;exact hnx.lv r' c0 b o i3 i2 },g2,g3,⟨fun r' c' hr'=>?_,fun r1 r2 c1 c2 b o1 o2 i1 i2 i3 i4=>?_,g4.gl.sub fun _ h=>h.1⟩,fun t v ht=>(g5 t v ht).frz,g6⟩
 ·by_cases e:r'=q
  ·subst e
   rw [up_at] at hr'
   injection hr' with hr'
   subst hr'
   obtain ⟨i1,i2⟩|⟨b,o,i1,i2,i0⟩:=hst.1 r' qs hq1
   ·rw [i1] at hj;simp at hj
   ·obtain ⟨c1,el,i3,i4⟩:=i0.cells_one hj rfl
    refine .inr ⟨b,o,i1,i2,.cells c1 el i3 fun j' a' hj'=>?_⟩
    rcases hs.2.2 j' a' hj' with ⟨j1,j2⟩|⟨_,j2⟩
    ·have e1:j' - j=0:=by have:=(List.getElem?_eq_some_iff.1 j2).1;simp at this;omega
     have e2:j'=j:=by omega
     rw [e1] at j2
     simp at j2
     subst e2 j2
     obtain ⟨i5,u,i6,i7⟩:=i4 j' _ hj
     obtain ⟨b2,o2,k1,k2,k0⟩:=(g4.1 r' qs hq).resolve_left (fun h=>by rw [h.1] at hj;simp at hj)
     obtain ⟨c2,el2,k3,k4⟩:=k0.cells_one hj rfl
     rw [k1] at i1
     injection i1 with i1
     injection i1 with z1 z2
     subst z1 z2
     rw [k3] at i3
     injection i3 with i3
     injection i3 with z3 z4
     subst z3
     obtain ⟨_,u',k5,k6⟩:=k4 j' _ hj
     rw [k5] at i6
     injection i6 with i6
     subst i6
     exact ⟨rfl,u',k5,k6.osl_frz g4 (by simp) hr hv hp⟩
    ·exact i4 j' a' j2
  ·rw [up_ne e] at hr';exact hst.1 r' c' hr'
 ·obtain ⟨d1,j1⟩:=hup r1 c1 i1
  obtain ⟨d2,j2⟩:=hup r2 c2 i2
  exact hst.2 r1 r2 d1 d2 b o1 o2 j1 j2 i3 i4
theorem W.name (f m':Nat) {t sz:Nat} (ht:T t=some .nils) (hm:m≤f) (hm':f < m') (h:W P k n c m' (up T t (some (.osl f 0 0 sz))) (up H f (some [])) K):W P k n c m T H K:=by
 obtain ⟨e,m2,T2,H2,h1,h2⟩:=h
 refine ⟨e,m2,T2,H2,h1,fun B hB a w hsim=>h2 B hB a w ?_⟩
 obtain ⟨h0,X,φ,g1,g2,g3,g4,g5,g6⟩:=hsim
 obtain ⟨i1,i2⟩:=g4.phantom (g6 f hm)
 refine ⟨by omega,X,φ,g1.trans i1 (fun r hr=>by rw [hr];omega),g2,g3,i2,all_up (p:=fun t v=>Rep X w φ (a.tmps.getD t undef) v) ?_ g5,fun r hr=>g6 r (by omega)⟩
 have h3:=g5 t _ ht
 generalize a.tmps.getD t undef=u at h3
 cases h3
 exact .osl0 _ _ _ _
theorem W.namec (f m':Nat) {q j sz:Nat} {qs qs':List AV} (hq:H q=some qs) (hj:qs[j]?=some .nils) (hs:Sp qs j [.osl f 0 0 sz] qs') (hm:m≤f) (hm':f < m') (hqf:q≠f) (h:W P k n c m' T (up (up H f (some [])) q (some qs')) K):W P k n c m T H K:=by
 obtain ⟨e,m2,T2,H2,h1,h2⟩:=h
 refine ⟨e,m2,T2,H2,h1,fun B hB a w hsim=>h2 B hB a w ?_⟩
 obtain ⟨h0,X,φ,g1,g2,g3,g4,g5,g6⟩:=hsim
 obtain ⟨i1,i2⟩:=g4.phantom (g6 f hm)
 have hq1:up H f (some []) q=some qs:=by rw [up_ne hqf];exact hq
 have hnx:=g1.trans i1 (fun r hr=>by rw [hr];omega)
 have hup:∀ r' c',up (up H f (some [])) q (some qs') r'=some c'→∃ c0,up H f (some []) r'=some c0:=fun r' c' h=>by
  by_cases e:r'=q
  ·subst e;exact ⟨qs,hq1⟩
  ·rw [up_ne e] at h;exact ⟨c',h⟩
 refine ⟨by omega,X,φ,{ hnx with lv:=fun r' c' b o j1 j2=>by obtain ⟨c0,j3⟩:=hup r' c' j1;exact hnx.lv r' c0 b o j3 j2 },g2,g3,⟨fun r' c' hr'=>?_,fun r1 r2 c1 c2 b o1 o2 j1 j2 j3 j4=>?_,g4.gl⟩,g5,fun r hr=>g6 r (by omega)⟩
 ·by_cases e:r'=q
  ·subst e
   rw [up_at] at hr'
   injection hr' with hr'
   subst hr'
   obtain ⟨k1,k2⟩|⟨b,o,k1,k2,k0⟩:=i2.1 r' qs hq1
   ·rw [k1] at hj;simp at hj
   ·obtain ⟨c1,el,k3,k4⟩:=k0.cells_one hj rfl
    refine .inr ⟨b,o,k1,k2,.cells c1 el k3 fun j' a' hj'=>?_⟩
    rcases hs.2.2 j' a' hj' with ⟨j1,j2⟩|⟨_,j2⟩
    ·have e1:j' - j=0:=by have:=(List.getElem?_eq_some_iff.1 j2).1;simp at this;omega
     have e2:j'=j:=by omega
     rw [e1] at j2
     simp at j2
     subst e2 j2
     obtain ⟨_,u,k5,k6⟩:=k4 j' _ hj
     refine ⟨rfl,u,k5,?_⟩
     cases k6
     exact .osl0 _ _ _ _
    ·exact k4 j' a' j2
  ·rw [up_ne e] at hr';exact i2.1 r' c' hr'
 ·obtain ⟨d1,l1⟩:=hup r1 c1 j1
  obtain ⟨d2,l2⟩:=hup r2 c2 j2
  exact i2.2 r1 r2 d1 d2 b o1 o2 l1 l2 j3 j4
def ren1 (σ:Nat→Nat):AV→AV
 | .own r off=>.own (σ r) off
 | .cloo g r off=>.cloo g (σ r) off
 | .clom g r=>.clom g (σ r)
 | .tyOf r t n=>.tyOf (σ r) t n
 | .oslt r off len sz e=>.oslt (σ r) off len sz e
 | .oslc r off len sz cap=>.oslc (σ r) off len sz cap
 | .ownt r off e=>.ownt (σ r) off e
 | .osl r off len sz=>.osl (σ r) off len sz
 | .mref r=>.mref (σ r)
 | .app f r off n n2 sz cs=>.app (σ f) (σ r) off n n2 sz cs
 | a=>a
def ren2 (σ:Nat→Nat):AV→AV
 | .agg cs=>.agg (cs.map (ren1 σ))
 | a=>ren1 σ a
theorem ren1_one (σ:Nat→Nat) (a:AV):(ren1 σ a).one=a.one:=by cases a<;>rfl
theorem ren1_rep {X:Nat→Prop} {w:World} {φ:Em} {v:Value} {a:AV} (σ:Nat→Nat) (h1:a.one=true) (h:Rep X w φ v (ren1 σ a)):Rep X w (fun r=>φ (σ r)) v a:=by
 cases a with
 | own r off=>obtain ⟨b,o,hp,rfl,hbs0⟩:=h.own_inv;exact .own r off b o hp hbs0
 | cloo g r off=>cases h with|cloo _ _ _ b o hp h0=>exact .cloo g r off b o hp h0
 | clom g r=>cases h with|clom _ _ bm b o hb hx hc hp=>exact .clom g r bm b o hb hx hc hp
 | tyOf r t n=>cases h with|tyOf _ _ _ b hp h0=>exact .tyOf r t n b hp h0
 | oslt r off len sz e=>cases h with
  | oslt _ _ _ _ _ b o cap hp hc hs he hz0=>exact .oslt r off len sz e b o cap hp hc hs he hz0
  | oslt0 A=>exact .oslt0 A r off sz e
 | oslc r off len sz cap=>cases h with
  | oslc _ _ _ _ _ b o hp hc hs=>exact .oslc r off len sz cap b o hp hc hs
  | oslc0 A=>exact .oslc0 A r off sz
 | ownt r off e=>cases h with|ownt _ _ _ b o hp h0 he hz0=>exact .ownt r off e b o hp h0 he hz0
 | osl r off len sz =>
  obtain ⟨A,cap,rfl,hc,⟨rfl,rfl⟩|⟨b,o,hp,rfl,hs⟩⟩:=h.osl_inv
  ·exact .osl0 _ _ _ _
  ·exact .osl r off len sz b o cap hp hc hs
 | mref r=>cases h with|mref _ b o hp=>exact .mref r b o hp
 | mp kd m=>cases h1
 | mpk k ks=>cases h1
 | agg cs=>cases h1
 | tup vs=>cases h1
 | base u=>exact h.pure1 rfl
 | nils=>exact h.pure1 rfl
 | imm cs off=>exact h.pure1 rfl
 | isl cs len=>exact h.pure1 rfl
 | clo g cs=>exact h.pure1 rfl
 | app f r off n n2 sz cs=>cases h with|app _ _ _ _ _ _ bf of cap b o _ cs' us hf hcap hs hr h1 hc h=>exact .app f r off n n2 sz bf of cap b o cs cs' us hf hcap hs hr h1 hc h
theorem ren2_rep {X:Nat→Prop} {w:World} {φ:Em} {v:Value} {a:AV} (σ:Nat→Nat) (ht:∀ vs,a≠.tup vs) (h:Rep X w φ v (ren2 σ a)):Rep X w (fun r=>φ (σ r)) v a:=by
 by_cases ha:∃ cs,a=.agg cs
 ·obtain ⟨cs,rfl⟩:=ha
  cases h with
  | agg vs _ hl h1 hh =>
   refine .agg vs cs (by simpa using hl) (fun i c hc=>?_) fun i v c hv hc=>?_
   ·have:=h1 i (ren1 σ c) (by simp [hc])
    rwa [ren1_one] at this
   ·have h2:=h1 i (ren1 σ c) (by simp [hc])
    rw [ren1_one] at h2
    exact ren1_rep σ h2 (hh i v (ren1 σ c) hv (by simp [hc]))
 ·have h2:ren2 σ a=ren1 σ a:=by cases a<;>first|rfl|exact absurd ⟨_,rfl⟩ ha
  rw [h2] at h
  cases a with
  | agg cs=>exact absurd ⟨_,rfl⟩ ha
  | tup vs=>exact absurd rfl (ht vs)
  | base u=>exact h.pure1 (by rfl)
  | own r off=>exact ren1_rep σ rfl h
  | cloo g r off=>exact ren1_rep σ rfl h
  | clom g r=>exact ren1_rep σ rfl h
  | tyOf r t n=>exact ren1_rep σ rfl h
  | oslt r off len sz e=>exact ren1_rep σ rfl h
  | oslc r off len sz cap=>exact ren1_rep σ rfl h
  | ownt r off e=>exact ren1_rep σ rfl h
  | osl r off len sz=>exact ren1_rep σ rfl h
  | mref r=>exact ren1_rep σ rfl h
  | mp kd m=>cases h
  | mpk k ks=>cases h
  | nils=>exact ren1_rep σ rfl h
  | imm cs off=>exact ren1_rep σ rfl h
  | isl cs len=>exact ren1_rep σ rfl h
  | clo g cs=>exact ren1_rep σ rfl h
  | app f r off n n2 sz cs=>exact ren1_rep σ rfl h
def sg (L:List (Nat × Nat)) (m:Nat):Nat→Nat:=fun r=>match L with
 | []=>m + r
 | (a,b)::l=>match Nat.beq a r with
  | true=>b
  | false=>sg l m r
def keyIn:List (Nat × Nat)→Nat→Bool
 | [],_=>false
 | (a,_)::l,r=>Nat.beq a r || keyIn l r
def okL (k m2:Nat) (L:List (Nat × Nat)):Bool:=L.all (fun p=>decide (p.1 < m2)) && decide ((L.map (·.2)).Nodup) && (List.range k).all (fun r=>Nat.beq (sg L 0 r) r && keyIn L r) && decide (k≤m2)
theorem sg_far {L:List (Nat × Nat)} {m r:Nat} (h:keyIn L r=false):sg L m r=m + r:=by
 induction L with
 | nil=>rfl
 | cons p l ih =>
  obtain ⟨a,b⟩:=p
  simp only [keyIn,Bool.or_eq_false_iff] at h
  unfold sg
  rw [h.1]
  exact ih h.2
theorem sg_mem {L:List (Nat × Nat)} {m r:Nat} (h:keyIn L r=true):(r,sg L m r)∈L:=by
 induction L with
 | nil=>cases h
 | cons p l ih =>
  obtain ⟨a,b⟩:=p
  simp only [keyIn,Bool.or_eq_true] at h
  unfold sg
  cases hb:Nat.beq a r with
  | true=>have:=Nat.eq_of_beq_eq_true hb;subst this;simp
  | false=>exact List.mem_cons_of_mem _ (ih (by rcases h with h|h;rw [hb] at h;cases h;exact h))
theorem sg_in {L:List (Nat × Nat)} {m m' r:Nat} (h:keyIn L r=true):sg L m r=sg L m' r:=by
 induction L with
 | nil=>cases h
 | cons p l ih =>
  obtain ⟨a,b⟩:=p
  simp only [keyIn,Bool.or_eq_true] at h
  unfold sg
  cases hb:Nat.beq a r with
  | true=>rfl
  | false=>exact ih (by rcases h with h|h;rw [hb] at h;cases h;exact h)
theorem nodup_fst {α:Type} {L:List (Nat × α)} {a b:Nat} {c:α} (h:(L.map (·.2)).Nodup) (h1:(a,c)∈L) (h2:(b,c)∈L):a=b:=by
 induction L with
 | nil=>cases h1
 | cons p l ih =>
  simp only [List.map_cons,List.nodup_cons] at h
  rcases List.mem_cons.1 h1 with e1|e1
  ·rcases List.mem_cons.1 h2 with e2|e2
   ·rw [← e1] at e2;injection e2 with e2;exact e2.symm
   ·exfalso;exact h.1 (List.mem_map.2 ⟨_,e2,by rw [← e1]⟩)
  ·rcases List.mem_cons.1 h2 with e2|e2
   ·exfalso;exact h.1 (List.mem_map.2 ⟨_,e1,by rw [← e2]⟩)
   ·exact ih h.2 e1 e2
theorem W.rename (L:List (Nat × Nat)) (m2:Nat) {T':Tp} {H':Hp} (hL:okL k m2 L=true)
 (hT:∀ t v,T' t=some v→(T t=some v∧v.pure=true)∨(T t=some (ren2 (sg L m) v)∧∀ vs,v≠.tup vs))
 (hH:∀ r cs,H' r=some cs→keyIn L r=true∧∃ cs0,H (sg L m r)=some cs0∧(cs0=cs.map (ren1 (sg L m))∨(cs0=cs∧cs.all AV.pure1=true))) (h:W P k n c m2 T' H' K):W P k n c m T H K:=by
 obtain ⟨e,m3,T2,H2,h1,h2⟩:=h
 unfold okL at hL
 simp only [Bool.and_eq_true,List.all_eq_true,decide_eq_true_eq,List.mem_range] at hL
 obtain ⟨⟨⟨hlt,hnd⟩,hid⟩,hkm⟩:=hL
 have hσk:∀ r,r < k→sg L m r=r:=fun r hr=>by
  have h3:=hid r hr
  rw [sg_in (m':=0) h3.2]
  exact Nat.eq_of_beq_eq_true h3.1
 refine ⟨e,m3,T2,H2,h1,fun B hB a w hs=>h2 B hB a w ?_⟩
 obtain ⟨h0,X,φ,g1,g2,g3,g4,g5,g6⟩:=hs
 have hinj:∀ r r',keyIn L r=true→keyIn L r'=true→sg L m r=sg L m r'→r=r':=fun r r' i1 i2 i3=>by
  have j1:=sg_mem (m:=m) i1
  have j2:=sg_mem (m:=m) i2
  rw [i3] at j1
  exact nodup_fst hnd j1 j2
 have hcells:∀ (cs0 cs:List AV) (u:Value) (a':AV) (j:Nat),(cs0=cs.map (ren1 (sg L m))∨(cs0=cs∧cs.all AV.pure1=true))→cs[j]?=some a'→∃ b,cs0[j]?=some b∧(b.one=true→a'.one=true∧(Rep X w φ u b→Rep X w (fun r=>φ (sg L m r)) u a')):=by
  intro cs0 cs u a' j hc hj
  rcases hc with rfl|⟨rfl,hp⟩
  ·refine ⟨ren1 (sg L m) a',by simp [hj],fun h1=>?_⟩
   rw [ren1_one] at h1
   exact ⟨h1,fun hr=>ren1_rep _ h1 hr⟩
  ·exact ⟨a',hj,fun h1=>⟨h1,fun hr=>hr.pure1 (List.all_eq_true.1 hp a' (List.mem_of_getElem? hj))⟩⟩
 refine ⟨by omega,X,fun r=>φ (sg L m r),⟨g1.os,g1.tape,g1.output,g1.size,g1.same,g1.bs,g1.xs,g1.xk,fun r hr=>?_,fun r cs b o i1 i2=>?_⟩,g2,g3,⟨fun r cs hr=>?_,fun r r' cs cs' b o o' i1 i2 i3 i4=>?_,g4.gl⟩,fun t v ht=>?_,fun r hr=>?_⟩
 ·have hrk:r < k:=by rw [← hB];omega
  show φ (sg L m r)=_
  rw [hσk r hrk]
  exact g1.ph r hr
 ·obtain ⟨_,cs0,j1,_⟩:=hH r cs i1
  exact g1.lv _ cs0 b o j1 i2
 ·obtain ⟨_,cs0,j1,j2⟩:=hH r cs hr
  obtain ⟨i1,i2⟩|⟨b,o,i1,i2,i3⟩:=g4.1 _ cs0 j1
  ·refine .inl ⟨?_,i2⟩
   rcases j2 with j2|⟨j2,_⟩
   ·rw [i1] at j2;simpa using j2.symm
   ·rw [← j2];exact i1
  ·refine .inr ⟨b,o,i1,i2,?_⟩
   cases i3 with
   | map es cl kd mm hc hh hm =>
    refine .map es cl kd mm ?_ hh hm
    rcases j2 with j2|⟨j2,_⟩
    ·rw [hc] at j2
     match cs,j2 with
     | [a],j2 =>
      simp at j2
      cases a<;>simp [ren1] at j2
      rw [j2.1,j2.2]
     | _::_::_,j2=>simp at j2
     | [],j2=>simp at j2
    ·rw [← j2];exact hc
   | mapk es cl kk mm hc hh hm =>
    refine .mapk es cl kk mm ?_ hh hm
    rcases j2 with j2|⟨j2,_⟩
    ·rw [hc] at j2
     match cs,j2 with
     | [a],j2 =>
      simp at j2
      cases a<;>simp [ren1] at j2
      rw [j2.1,j2.2]
     | _::_::_,j2=>simp at j2
     | [],j2=>simp at j2
    ·rw [← j2];exact hc
   | mapa es cl kd ks as_ hc hh hm =>
    refine .mapa es cl kd ks as_ ?_ hh (hm.keep fun v a ha hr=>hr.pure2 (AV.pureA_2 (List.all_eq_true.1 hm.pu a ha)))
    rcases j2 with j2|⟨j2,_⟩
    ·rw [hc] at j2
     match cs,j2 with
     | a::b1::bs,j2 =>
      simp only [maC,List.map_cons,List.cons.injEq] at j2
      obtain ⟨q0,q1,q2⟩:=j2
      cases a<;>simp [ren1] at q0
      cases b1<;>simp [ren1] at q1
      rw [← q0.1,← q0.2,← q1]
      have:bs=as_:=by
       have hpu:=hm.pu
       rw [q2] at hpu
       rw [q2]
       refine ((List.map_congr_left fun a ha=>?_).trans (List.map_id bs)).symm
       have:=List.all_eq_true.1 hpu _ (List.mem_map_of_mem ha)
       cases a<;>first|(cases this;done)|rfl
      rw [this];rfl
     | [_],j2=>simp [maC] at j2
     | [],j2=>simp [maC] at j2
    ·rw [← j2];exact hc
   | mapl es cl kd ks vs hc hh hm =>
    refine .mapl es cl kd ks vs ?_ hh hm
    rcases j2 with j2|⟨j2,_⟩
    ·rw [hc] at j2
     match cs,j2 with
     | [a,b1,b2],j2 =>
      simp only [mlC,List.map_cons,List.map_nil,List.cons.injEq,and_true] at j2
      obtain ⟨q0,q1,q2⟩:=j2
      cases a<;>simp [ren1] at q0
      cases b1<;>simp [ren1] at q1
      cases b2<;>simp [ren1] at q2
      rw [← q0.1,← q0.2,← q1,← q2];rfl
     | [_,_],j2=>simp [mlC] at j2
     | [_],j2=>simp [mlC] at j2
     | _::_::_::_::_,j2=>simp [mlC] at j2
     | [],j2=>simp [mlC] at j2
    ·rw [← j2];exact hc
   | cells c1 el i3 i4 =>
   refine .cells c1 el i3 fun j a' hj=>?_
   obtain ⟨b',hb',_⟩:=hcells cs0 cs undef a' j j2 hj
   obtain ⟨k1,u,k2,k3⟩:=i4 j b' hb'
   obtain ⟨b'',hb'',h5⟩:=hcells cs0 cs u a' j j2 hj
   rw [hb'] at hb''
   injection hb'' with hb''
   subst hb''
   exact ⟨(h5 k1).1,u,k2,(h5 k1).2 k3⟩
 ·obtain ⟨k1,c1,j1,_⟩:=hH r cs i1
  obtain ⟨k2,c2,j2,_⟩:=hH r' cs' i2
  exact hinj r r' k1 k2 (g4.2 _ _ c1 c2 b o o' j1 j2 i3 i4)
 ·rcases hT t v ht with ⟨i1,i2⟩|⟨i1,i2⟩
  ·exact (g5 t v i1).pure i2
  ·exact ren2_rep _ i2 (g5 t _ i1)
 ·show φ (sg L m r)=none
  refine g6 _ ?_
  cases hk:keyIn L r with
  | true=>have:=hlt _ (sg_mem (m:=m) hk);simp only at this;omega
  | false=>rw [sg_far hk];omega
end
theorem WL.rename {P:Program} {k n m:Nat} {T:Tp} {H:Hp} {K:Exit→Nat→Tp→Hp→Prop} {c:Code} (L:List (Nat × Nat)) (m2:Nat) {T':Tp} {H':Hp} (hL:okL k m2 L=true)
 (hT:∀ t v,T' t=some v→(T t=some v∧v.pure=true)∨(T t=some (ren2 (sg L m) v)∧∀ vs,v≠.tup vs))
 (hH:∀ r cs,H' r=some cs→keyIn L r=true∧∃ cs0,H (sg L m r)=some cs0∧(cs0=cs.map (ren1 (sg L m))∨(cs0=cs∧cs.all AV.pure1=true))) (h:WL P k n c m2 T' H' K):WL P k n c m T H K:=by
 obtain ⟨r,hr⟩:=h
 cases r with
 | zero=>exact hr.elim
 | succ r=>exact ⟨r + 1,W.rename L m2 hL hT hH hr⟩
theorem W.loop_ind {P:Program} {k n:Nat} {K:Exit→Nat→Tp→Hp→Prop} {c:Code} {α:Type} (μ:α→Nat) (m:Nat) (T:α→Tp) (H:α→Hp) (I:α→Prop) (x0:α) (h0:I x0)
 (hstep:∀ x,I x→(∀ y,μ y < μ x→I y→WL P k n c m (T y) (H y) K)→W P k n c m (T x) (H x) (thenK (fun m T H=>WL P k n c m T H K) K)):W P k n (.loop c) m (T x0) (H x0) K:=by
 refine W.loop ?_
 have key:∀ q x,μ x=q→I x→WL P k n c m (T x) (H x) K:=by
  intro q
  induction q using Nat.strongRecOn with
  | _ q ih=>intro x hx hI;exact WL.step (hstep x hI fun y hy hIy=>ih (μ y) (by omega) y rfl hIy)
 exact key _ x0 rfl h0
theorem AFn.ex {P:Program} {f:FuncId} {fn:Func} {code:Code} {k n:Nat} {args:List AV} {H:Hp} {Q:AV→Hp→Prop} (hf:P.funcs[f]?=some fn) (hb:fn.body=some code) (hn:fn.ntmps=n) (hl:args.length≤n)
 (h:W P k n code k (fun t=>args[t]?) H (RetK P fn Q)):∃ v H',AFn P f k args H v H'∧Q v H':=AFn.of_W hf hb hn hl h
theorem AFn.eq {P:Program} {f:FuncId} {fn:Func} {code:Code} {k n:Nat} {args:List AV} {H H':Hp} {v:AV} (hf:P.funcs[f]?=some fn) (hb:fn.body=some code) (hn:fn.ntmps=n) (hl:args.length≤n)
 (h:W P k n code k (fun t=>args[t]?) H (RetK P fn fun u G=>u=v∧G=H')):AFn P f k args H v H':=by
 obtain ⟨u,G,h1,rfl,rfl⟩:=AFn.of_W hf hb hn hl h
 exact h1
theorem AFn.below {P:Program} {f:FuncId} {args:List AV} {v:Value} {w:World} {vals:Array Value} (h:AFn P f 0 args mt (.base v) mt) (hs:vals.size=args.length) (hR:∀ (i:Nat) x a,vals[i]?=some x→args[i]?=some a→Rep (fun _=>False) w mt x a) (hG:Glob (fun _=>False) w) :
 Calls P f vals w fun e w'=>e=.returned v∧Below w.heap.size w w':=by
 refine (h (fun _=>False) mt w vals hs hR ⟨fun r cs h=>(by cases h),fun r r' cs cs' b o o' h=>(by cases h),hG⟩ (fun _ _=>rfl)).mono ?_
 rintro e w' ⟨x,X',φ',rfl,h1,h2,h3⟩
 rw [h3.base_eq]
 exact ⟨rfl,⟨h1.os,h1.tape,h1.output,h1.size,fun b hb=>h1.same b hb fun r cs o h=>(by cases h)⟩⟩
section
variable {P:Program} {o:Oper} {E:Operand→Option AV} {H:Hp} {f:Nat} {v v':AV} {g:FuncId} {xs:Array Operand} {ts:Array TypeId} {args:List AV} {fr:List Nat}
theorem osl_move {X:Nat→Prop} {w:World} {φ φ2:Em} {x:Value} {r q len sz:Nat} (h:Rep X w φ x (.osl r 0 len sz)) (e:φ2 q=φ r):Rep X w φ2 x (.osl q 0 len sz):=by
 obtain ⟨A,cap,rfl,hc,⟨rfl,rfl⟩|⟨b,o,hp,rfl,hs⟩⟩:=h.osl_inv
 ·exact .osl0 _ _ _ _
 ·exact .osl q 0 len sz b o cap (e.trans hp) hc hs
theorem LO.callV {cs:List AV} (ho:o.op=.call { callee:=.value (.func g),args:=xs,argTypes:=ts }) (hE:E (.func g)=some (.base (.func (.func g) #[] #[]))) (h:AFn P g 0 args mt v (up mt 0 (some cs))) (hF:FnOK P g)
 (hargs:Args E H fr none xs.toList args) (hp:cs.all AV.pure1=true) (hfr:f ∉ fr) (hv:∀ (X:Nat→Prop) (w:World) (φ φ2:Em) (x:Value),Rep X w φ x v→φ2 f=φ 0→Rep X w φ2 x v'):LO P o E H f [] (f::fr) v' (up (frK H fr) f (some cs)):=by
 refine ⟨fun r hr=>by simp at hr;rw [up_ne hr.1];exact if_neg hr.2,fun E' K hE' hK X φ w ρ hR hst hff=>?_⟩
 have hKf:∀ r,r∈fr→K r=H r:=fun r hr=>hK r (.inr (by simp [hr]))
 have hov:ovr K (f::fr) (up (frK H fr) f (some cs))=up (frK K fr) f (some cs):=by
  funext r
  unfold ovr
  by_cases h1:r=f
  ·subst h1;simp [up_at]
  ·rw [up_ne h1,up_ne h1]
   unfold frK
   by_cases h2:r∈fr<;>simp [h1,h2]
 rw [hov]
 obtain ⟨fn,hf,hname,hb⟩:=hF
 have hops:o.op.operands=#[.func g]++xs:=by rw [ho];rfl
 have hρ:ρ (.func g)=.func (.func g) #[] #[]:=(hR (.func g) _ ((hE' _ (by rw [hops];simp)).trans hE)).base_eq
 unfold OpW
 rw [run_call ho hρ hf hname hb]
 obtain ⟨g1,g2⟩:=hargs.rep (K:=K) (X:=X) (φ:=φ) (φ':=mt) (w:=w) (ρ:=ρ) hKf hst (fun x hx a ha=>hR x a ((hE' x (by rw [hops];simp;exact .inr (by simpa using hx))).trans ha)) (fun q h=>by cases h)
 refine (h (frX X K φ fr) mt w (xs.map ρ) (by simp;simpa using g1) (fun i x a hx ha=>g2 i x a (by simpa using hx) ha) ⟨fun r cs h=>(by cases h),fun r r' cs cs' b o o' h=>(by cases h),hst.frz.gl⟩ (fun _ _=>rfl)).mono ?_
 rintro e w' ⟨x,X',φ',rfl,h1,h2,h3⟩
 have hst1:=hst.frz (fr:=fr)
 obtain ⟨k1,k2,_⟩:=nxt_pure hst1 h1 (fun _ _ _ _ _ _ _ _ _ h=>by cases h) (fun _ _ _ _ h=>by cases h)
 have hbn:∀ b o',φ' 0=some (b,o')→w.heap.size≤b:=fun b o' hp0=>by
  rcases h1.lv 0 cs b o' (up_at _ _ _) hp0 with h4|⟨_,_,_,h4,_⟩
  ·exact h4
  ·cases h4
 let φ2:Em:=fun r=>if r=f then φ' 0 else φ r
 have hφf:φ2 f=φ' 0:=if_pos rfl
 have hφn:∀ r,r≠f→φ2 r=φ r:=fun r h=>if_neg h
 have hφe:∀ r y,φ r=some y→φ2 r=some y:=fun r y h=>by
  rw [hφn r (fun e=>by rw [e,hff] at h;cases h)];exact h
 have hkeep:∀ v a,Rep X' w' φ v a→Rep X' w' φ2 v a:=fun v a h=>h.keep (Nat.le_refl _) (fun _ _ _=>rfl) (fun _ _=>rfl) (fun _ _ h=>h) hφe
 refine ⟨_,rfl,X',φ2,?_,⟨fun r cs1 hr=>?_,fun r1 r2 c1 c2 b1 o1 o2 g1 g2 g3 g4=>?_,h2.gl⟩,hv _ _ _ _ _ h3 hφf⟩
 ·refine (Nxt.frz (fr:=fr)).trans ⟨h1.os,h1.tape,h1.output,h1.size,fun b hb hn=>h1.same b hb (fun _ _ _ h=>by cases h),h1.bs,h1.xs,fun b hb hx=>(h1.xk b hb hx).imp id fun ⟨_,_,_,h,_⟩=>(by cases h),fun r hr=>hφn r hr,fun r cs1 b1 o1 g1 g2=>?_⟩ fun _ h=>h
  by_cases hr:r=f
  ·subst hr
   rw [hφf] at g2
   exact .inl (hbn b1 o1 g2)
  ·rw [up_ne hr] at g1
   rw [hφn r hr] at g2
   exact .inr ⟨r,cs1,o1,g1,g2⟩
 ·by_cases hrf:r=f
  ·subst hrf
   rw [up_at] at hr
   injection hr with hr
   subst hr
   obtain ⟨h4,h5⟩|⟨b1,o1,h4,h5,h6⟩:=h2.1 0 cs (up_at _ _ _)
   ·exact .inl ⟨h4,by rw [hφf];exact h5⟩
   ·exact .inr ⟨b1,o1,by rw [hφf];exact h4,h5,h6.keepP rfl fun v a ha h=>h.pure1 (List.all_eq_true.1 hp a ha)⟩
  ·rw [up_ne hrf] at hr
   obtain ⟨i1,i2⟩|⟨b1,o1,i1,i2,i3⟩:=k2.1 r cs1 hr
   ·exact .inl ⟨i1,by rw [hφn r hrf];exact i2⟩
   ·exact .inr ⟨b1,o1,by rw [hφn r hrf];exact i1,i2,i3.keep rfl hkeep⟩
 ·have hlt:∀ r c o2 b2,frK K fr r=some c→φ r=some (b2,o2)→b2 < w.heap.size:=by
   intro r c o2 b2 i1 i2
   obtain ⟨_,i3⟩|⟨b3,o3,i3,_,i4⟩:=hst1.1 r c i1
   ·rw [i3] at i2;cases i2
   ·rw [i3] at i2;injection i2 with i2;injection i2 with i2 _;subst i2;exact i4.lt
  by_cases hr1:r1=f
  ·by_cases hr2:r2=f
   ·rw [hr1,hr2]
   ·exfalso
    rw [up_ne hr2] at g2
    rw [hφn r2 hr2] at g4
    rw [hr1,hφf] at g3
    have:=hbn b1 o1 g3
    have:=hlt r2 c2 o2 b1 g2 g4
    omega
  ·rw [up_ne hr1] at g1
   rw [hφn r1 hr1] at g3
   by_cases hr2:r2=f
   ·exfalso
    rw [hr2,hφf] at g4
    have:=hbn b1 o2 g4
    have:=hlt r1 c1 o1 b1 g1 g3
    omega
   ·rw [up_ne hr2] at g2
    rw [hφn r2 hr2] at g4
    exact k2.2 r1 r2 c1 c2 b1 o1 o2 g1 g2 g3 g4
theorem LO.callO {cs:List AV} {n sz:Nat} (ho:o.op=.call { callee:=.value (.func g),args:=xs,argTypes:=ts }) (hE:E (.func g)=some (.base (.func (.func g) #[] #[]))) (h:AFn P g 0 args mt (.osl 0 0 n sz) (up mt 0 (some cs))) (hF:FnOK P g)
 (hargs:Args E H fr none xs.toList args) (hp:cs.all AV.pure1=true) (hfr:f ∉ fr):LO P o E H f [] (f::fr) (.osl f 0 n sz) (up (frK H fr) f (some cs)) :=
 .callV ho hE h hF hargs hp hfr fun _ _ _ _ _ hr e=>osl_move hr e
end
section
variable {P:Program} {k n m:Nat} {T:Tp} {H:Hp} {K:Exit→Nat→Tp→Hp→Prop}
def Joins (P:Program) (k n:Nat) {α:Type} (M:Nat) (T':α→Tp) (H':α→Hp) (A:α→Prop) (m:Nat) (T:Tp) (H:Hp):Prop:=∀ (y:Code) (K:Exit→Nat→Tp→Hp→Prop),(∀ a,A a→W P k n y M (T' a) (H' a) K)→W P k n y m T H K
theorem W.seqJ {x y:Code} {α:Type} (M:Nat) (T':α→Tp) (H':α→Hp) (A:α→Prop)
 (h1:W P k n x m T H (thenK (fun m T H=>Joins P k n M T' H' A m T H) K)) (h2:∀ a,A a→W P k n y M (T' a) (H' a) K):W P k n (.seq x y) m T H K:=by
 refine W.seq (h1.mono fun e m T H h=>?_)
 cases e with
 | normal=>exact h y K h2
 | _=>exact h
end
end Go.Proofs.YtbfnfgpjgdbmeaaGreatDoor
namespace Go.Proofs.YtbfnfgpjgdbmeaaGreatDoor
open Go.RowKit Go.Lib
section
variable {P:Program} {o:Oper} {E:Operand→Option AV} {H:Hp} {f:Nat} {v a:AV} {t:TypeId} {l:Lay} {size bytes:Nat} {zero:List AV} {x y:Operand} {e sz by' m:Nat} {l':Lay} {z':List AV}
theorem nils_val {X:Nat→Prop} {w:World} {φ:Em} {u:Value} (h:Rep X w φ u .nils):u=.slice none 0 0:=by cases h;rfl
theorem LO.cap_nil (ho:o.op=.call { callee:=.builtin .cap,args:=#[x],argTypes:=#[t] }) (hx:E x=some .nils) (ht:TyOK P t (.sl e) size bytes zero):LO P o E H f [] [] (.base (.int .i64 0)) H :=
 .pure fun X φ w ρ hR=>by
  have e1:=nils_val (hR x (by simp [ho,Op.operands,Call.operands]) _ hx)
  exact ⟨_,by simp [execOp,ho,resolve,invoke,Go.builtin,Builtin.cap_,e1,run_underlying (lay_sl ht),goInt];try rfl,.base _⟩
theorem LO.slice_nil {hi:Operand} (ho:o.op=.slice t x none (some hi) none) (hx:E x=some .nils) (hh:E hi=some (.base (.int .i64 0))) (ht:TyOK P t (.sl e) size bytes zero) (he:TyOK P e l' sz by' z'):LO P o E H f [] [] .nils H :=
 .pure fun X φ w ρ hR=>by
  have e1:=nils_val (hR x (by simp [ho,Op.operands]) _ hx)
  have e2:=(hR hi (by simp [ho,Op.operands]) _ hh).base_eq
  refine ⟨.slice none 0 0,?_,.nils⟩
  have:=run_slice (P:=P) (w:=w) (ρ:=ρ) (lo:=none) (hi:=some hi) (A:=none) (len:=0) (cap:=0) (m:=0) (n:=0) ht he (.inl ⟨rfl,rfl⟩) (.inr ⟨hi,.i64,rfl,e2⟩) (Nat.le_refl _) (Nat.le_refl _) (Nat.le_refl _)
  simp only [execOp,ho,e1,Sem.run_bind,Option.map_none,Option.map_some] at this ⊢
  rw [this]
  rfl
theorem LO.append_make {n:Nat} {k kn:IntKind} {tn:TypeId} {sn bn:Nat} {zn:List AV} (ho:o.op=.call { callee:=.builtin .append,args:=#[x,y],argTypes:=#[t,tn] }) (hx:E x=some .nils) (hy:E y=some (.base (.int k (n:Int)))) (ht:TyOK P t (.sl e) size bytes zero) (htn:TyOK P tn (.int kn) sn bn zn) (he:TyOK P e l' sz by' z') (h0:0 < sz)
 (hn0:0 < n) (hm:n * by'≤140737488355328) (hm2:n≤9223372036854775807):LO P o E H f [] [f] (.osl f 0 n sz) (up H f (some [])):=by
 refine ⟨fun r hr=>up_ne (by simpa using hr),fun E' K hE hK X φ w ρ hR hst hf=>?_⟩
 rw [ovr_one]
 have e1:=nils_val (hR x _ ((hE x (by simp [ho,Op.operands,Call.operands])).trans hx))
 have e2:=(hR y _ ((hE y (by simp [ho,Op.operands,Call.operands])).trans hy)).base_eq
 obtain ⟨i,z,hi,hsz,hby,hz,hzs⟩:=info_of he
 subst hsz
 unfold OpW
 have hfc:(Builtin.firstCells i.size 0 (.slice none 0 0)).run P w.drew=.ok ([]:List Value).toArray w.drew:=by simp [Builtin.firstCells]
 have hun:=lay_int htn
 have hrun:=run_append_grow_zeros (P:=P) w t tn o.type e i z k kn (lay_sl ht) hun hi hz none 0 0 [] hfc n hn0 h0 (by omega) (by omega) (by rw [hby];omega) (growslice_fits (by omega) (by rw [hby];simpa using hm))
 simp only [execOp,ho,resolve,invoke,Go.builtin,Sem.run_bind,Sem.run_pure,Result.andThen_ok,List.map_toArray,List.map_cons,List.map_nil,e1,e2,hrun]
 obtain ⟨h1,h2,h3,h4,h5⟩:=hst.fresh (w':=w.drew.alloc (.cells (([]:List Value).toArray++Builtin.zeroCells z.cells n++Builtin.zeroCells z.cells (grownCap w (0 + n) 0 e - (0 + n))) e)) (cs:=[]) hf rfl rfl rfl rfl (fun j c hj=>by simp at hj)
 refine ⟨_,_,h1,h2,?_⟩
 have:=new_row_rep (φ':=fun r=>if r=f then some (w.heap.size,0) else φ r) (X':=fun b=>X b∨b=w.heap.size) (sz:=i.size) h5 h4 (n:=0 + n) (by simp [size_zeroCells,hzs]) hzs (grownCap_ge w (0 + n) 0 e)
 simpa using this
end
end Go.Proofs.YtbfnfgpjgdbmeaaGreatDoor
namespace Go.Proofs.YtbfnfgpjgdbmeaaGreatDoor
open Go.RowKit
theorem RW.split {P:Program} {ops:Array Oper} {m i:Nat} {K:Tp→Hp→List (List Nat × List Nat)→Prop} {l:List Oper} {T:Tp} {H:Hp} {acc:List (List Nat × List Nat)} {t:Nat} {x:Bool}
 (_ht:T t=some (.base (.bool x))) (h1:x=true→RW P ops m K i l T H acc) (h2:x=false→RW P ops m K i l T H acc):RW P ops m K i l T H acc:=by
 cases x
 ·exact h2 rfl
 ·exact h1 rfl
theorem ne_of_beq_false {a b:Int} (h:(a == b)=false):a≠b:=by simpa using h
def baseT:List (Nat × AV)→Tp
 | []=>mt
 | (t,v)::l=>up (baseT l) t (some v)
def RenT (σ:Nat→Nat) (T:Tp) (t:Nat) (v:AV):Prop:=(T t=some v∧v.pure=true)∨(T t=some (ren2 σ v)∧∀ vs,v≠.tup vs)
inductive LookR (σ:Nat→Nat) (T:Tp):List (Nat × AV)→Prop
 | nil:LookR σ T []
 | cons {t:Nat} {v:AV} {l:List (Nat × AV)} (h:RenT σ T t v) (hl:LookR σ T l):LookR σ T ((t,v)::l)
inductive LookK (σ:Nat→Nat) (T:Tp):List (Nat × AV)→Prop
 | nil:LookK σ T []
 | cons {t:Nat} {v:AV} {l:List (Nat × AV)} (h:T t=some v) (h2:v.pure=true∨(ren2 σ v=v∧∀ vs,v≠.tup vs)) (hl:LookK σ T l):LookK σ T ((t,v)::l)
theorem LookK.R {σ:Nat→Nat} {T:Tp} {l:List (Nat × AV)} (h:LookK σ T l):LookR σ T l:=by
 induction h with
 | nil=>exact .nil
 | cons h h2 _ ih =>
  refine .cons ?_ ih
  rcases h2 with h2|⟨h2,h3⟩
  ·exact .inl ⟨h,h2⟩
  ·exact .inr ⟨by rw [h2];exact h,h3⟩
theorem LookR.app {σ:Nat→Nat} {T:Tp} {a b:List (Nat × AV)} (h1:LookR σ T a) (h2:LookR σ T b):LookR σ T (a++b):=by
 induction h1 with
 | nil=>exact h2
 | cons h _ ih=>exact .cons h ih
theorem LookR.all {σ:Nat→Nat} {T:Tp} {l:List (Nat × AV)} (h:LookR σ T l):∀ t v,baseT l t=some v→RenT σ T t v:=by
 induction h with
 | nil=>intro t v h;cases h
 | cons h _ ih=>exact all_up h ih
def RenH (L:List (Nat × Nat)) (m:Nat) (H:Hp) (r:Nat) (cs:List AV):Prop:=keyIn L r=true∧∃ cs0,H (sg L m r)=some cs0∧(cs0=cs.map (ren1 (sg L m))∨(cs0=cs∧cs.all AV.pure1=true))
theorem W.loop_keep {P:Program} {k n m:Nat} {T:Tp} {H:Hp} {K:Exit→Nat→Tp→Hp→Prop} {c:Code} {α:Type} {vs:List (Nat × AV)} (μ:α→Nat) (m2:Nat) (os:α→List (Nat × AV)) (Hf:α→Hp) (I:α→Prop) (x0:α) (L:List (Nat × Nat))
 (hk:LookK (sg L m) T vs) (h0:I x0) (hL:okL k m2 L=true) (ho:LookR (sg L m) T (os x0)) (hH:∀ r cs,Hf x0 r=some cs→RenH L m H r cs)
 (hstep:∀ x,I x→(∀ y,μ y < μ x→I y→WL P k n c m2 (baseT (os y++vs)) (Hf y) K)→W P k n c m2 (baseT (os x++vs)) (Hf x) (thenK (fun m T H=>WL P k n c m T H K) K)):W P k n (.loop c) m T H K :=
 W.rename L m2 (T':=baseT (os x0++vs)) (H':=Hf x0) hL (ho.app hk.R).all hH
  (W.loop_ind μ m2 (fun x=>baseT (os x++vs)) Hf I x0 h0 hstep)
theorem WL.renameL {P:Program} {k n m:Nat} {T:Tp} {H:Hp} {K:Exit→Nat→Tp→Hp→Prop} {c:Code} (L:List (Nat × Nat)) (m2:Nat) {l:List (Nat × AV)} {H':Hp} (hL:okL k m2 L=true)
 (hT:LookR (sg L m) T l) (hH:∀ r cs,H' r=some cs→RenH L m H r cs) (h:WL P k n c m2 (baseT l) H' K):WL P k n c m T H K :=
 WL.rename L m2 hL hT.all hH h
end Go.Proofs.YtbfnfgpjgdbmeaaGreatDoor
namespace Go.Proofs.YtbfnfgpjgdbmeaaGreatDoor
open Go.ChangeShapes Go.WideShapes Go.ChangeAt Go.RowKit
def CR (w:World) (cs:List Value) (avs:List AV):Prop:=cs.length=avs.length∧∀ (i:Nat) v a,cs[i]?=some v→avs[i]?=some a→a.one=true∧a.pure1=true∧Rep (fun _=>False) w mt v a
theorem CR.one {w:World} {v:Value} {a:AV} (h1:a.one=true) (h0:a.pure1=true) (h:Rep (fun _=>False) w mt v a):CR w [v] [a]:=⟨rfl,fun i u b hu hb=>by
 cases i with
 | zero=>simp at hu hb;subst hu hb;exact ⟨h1,h0,h⟩
 | succ i=>simp at hu⟩
section
variable {H:Type}
def Opens (enc:TypeId × Value→H) (P:Program) (t:TypeId) {α:Type} (E:α→List AV) (ok:α→Prop):Prop :=
 ∀ (w:World) (base:Nat) (spare:Nat→Bool) (held:Bool) (fuel:Nat) (cs:List Value) (y:DataW H × List MemPlace),DataW.trod enc P w base spare held fuel t cs=some y→∃ x,ok x∧CR w cs (E x)
variable {enc:TypeId × Value→H} {P:Program} {t e:TypeId} {α β:Type} {E:α→List AV} {ok:α→Prop}
theorem Opens.int {k:IntKind} (ht:P.underlying t=some (.int k)):Opens enc P t (fun (z:Int)=>[.base (.int k z)]) (fun z=>(Lit.int k z).wf=true):=fun _w _ _ _ _ _ _ h=>by
 obtain ⟨n,rfl,_,hw⟩:=DataW.trod_int ht h
 exact ⟨n,hw,.one rfl rfl (.base _)⟩
theorem Opens.map {E':β→List AV} {ok':β→Prop} (h:Opens enc P t E ok) (g:α→β) (hE:∀ x,ok x→E' (g x)=E x) (hok:∀ x,ok x→ok' (g x)):Opens enc P t E' ok':=fun w b s hd f cs y hy=>by
 obtain ⟨x,h1,h2⟩:=h w b s hd f cs y hy
 exact ⟨g x,hok x h1,by rw [hE x h1];exact h2⟩
theorem Addr.add_add (a:Addr) (i j:Nat):(a.add i).add j=a.add (i + j):=by
 unfold Addr.add
 by_cases hi:i=0<;>by_cases hj:j=0<;>simp [hi,hj,Nat.add_assoc]
theorem add_none (a:Addr) (hs:a=⟨a.block,a.off,none⟩) (i:Nat):a.add i=⟨a.block,a.off + i,none⟩:=by
 obtain ⟨b,o,s⟩:=a
 simp only [Addr.mk.injEq,true_and] at hs
 subst hs
 unfold Addr.add
 split<;>simp [*]
theorem spotless {w:World} {a:Addr} {v:Value} (h:w.cell? a=some v):a=⟨a.block,a.off,none⟩:=by
 obtain ⟨b,o,s⟩:=a
 cases s with
 | none=>rfl
 | some s=>simp [World.cell?] at h;split at h<;>simp at h
theorem flat_at {f:α→List AV} {n:Nat} (h:∀ x,ok x→(f x).length=n):∀ (l:List α),(∀ x∈l,ok x)→∀ (i:Nat) a,(l.flatMap f)[i]?=some a→∃ k j x,i=k * n + j∧j < n∧l[k]?=some x∧(f x)[j]?=some a:=by
 intro l
 induction l with
 | nil=>intro _ i a h;simp at h
 | cons x l ih =>
  intro hok i a hi
  have hx:=h x (hok x (by simp))
  rw [List.flatMap_cons] at hi
  rcases Nat.lt_or_ge i n with hl|hl
  ·rw [List.getElem?_append_left (by omega)] at hi
   exact ⟨0,i,x,by omega,hl,rfl,hi⟩
  ·rw [List.getElem?_append_right (by omega),hx] at hi
   obtain ⟨k,j,z,h1,h2,h3,h4⟩:=ih (fun x hx=>hok x (by simp [hx])) _ _ hi
   exact ⟨k + 1,j,z,by rw [Nat.add_mul];omega,h2,h3,h4⟩
theorem pick_list {p:Nat→α→Prop}:∀ (n:Nat),(∀ i,i < n→∃ x,p i x)→∃ l:List α,l.length=n∧∀ (i:Nat) x,l[i]?=some x→p i x:=by
 intro n
 induction n with
 | zero=>intro _;exact ⟨[],rfl,fun i x h=>by simp at h⟩
 | succ n ih =>
  intro h
  obtain ⟨l,h1,h2⟩:=ih fun i hi=>h i (by omega)
  obtain ⟨x,hx⟩:=h n (by omega)
  refine ⟨l++[x],by simp [h1],fun i y hy=>?_⟩
  rcases Nat.lt_or_ge i n with hi|hi
  ·rw [List.getElem?_append_left (by omega)] at hy;exact h2 i y hy
  ·rw [List.getElem?_append_right (by omega)] at hy
   have:i - l.length=0:=by have:=(List.getElem?_eq_some_iff.1 hy).1;simp at this;omega
   rw [this] at hy
   simp at hy
   subst hy
   rw [show i=n from by omega]
   exact hx
theorem Opens.slice {n:Nat} (ht:P.underlying t=some (.slice e)) (he:Opens enc P e E ok) (hn:P.cellsOf e=n) (h0:0 < n) (hl:∀ x,ok x→(E x).length=n):Opens enc P t (fun (l:List α)=>[.isl (l.flatMap E) l.length]) (fun l=>l.length≤maxLen∧∀ x∈l,ok x):=fun w base spare held fuel cs y h=>by
 rcases DataW.trod_slice ht h with ⟨rfl,_⟩|⟨a,len,cap,elems,rest,m,_,rfl,_,hb,hlc,hm,hlen,hel,_,_⟩
 ·exact ⟨[],⟨Nat.zero_le _,fun x h=>by cases h⟩,.one rfl rfl (.isl0 _ _)⟩
 ·rw [hn] at hel
  have each:∀ i,i < len→∃ x:α,ok x∧∀ (j:Nat) c,(E x)[j]?=some c→c.one=true∧c.pure1=true∧∃ v,w.cell? (a.add (i * n + j))=some v∧Rep (fun _=>False) w mt v c:=by
   intro i hi
   have h1:=hel i hi
   rw [List.getElem?_eq_getElem (by omega),Option.bind_eq_some_iff] at h1
   obtain ⟨cs',hc1,hc2⟩:=h1
   obtain ⟨_,hc3,hc4⟩:=World.cells?_some hc1
   obtain ⟨x,hx1,hx2,hx3⟩:=he w base spare held m cs' _ hc2
   refine ⟨x,hx1,fun j c hj=>?_⟩
   have hj1:j < n:=by have:=(List.getElem?_eq_some_iff.1 hj).1;have:=hl x hx1;omega
   have hj2:cs'[j]?=some (cs'[j]'(by omega)):=List.getElem?_eq_getElem (by omega)
   obtain ⟨k1,k0,k2⟩:=hx3 j _ c hj2 hj
   refine ⟨k1,k0,_,?_,k2⟩
   have:=hc4 j hj1
   rw [hj2] at this
   rw [← this,Addr.add_add]
  obtain ⟨l,hl1,hl2⟩:=pick_list len each
  have hokl:∀ x∈l,ok x:=fun x hx=>by
   obtain ⟨i,hi⟩:=List.getElem?_of_mem hx
   exact (hl2 i x hi).1
  refine ⟨l,⟨by omega,hokl⟩,.one rfl rfl ?_⟩
  rcases Nat.eq_zero_or_pos len with hz|hz
  ·obtain rfl:l=[]:=List.length_eq_zero_iff.1 (by omega)
   obtain rfl:len=0:=hz
   exact .isl0 _ _
  ·have hx0:=hl2 0 (l[0]'(by omega)) (List.getElem?_eq_getElem (by omega))
   have hE0:=hl _ hx0.1
   obtain ⟨_,_,v0,hv0,_⟩:=hx0.2 0 _ (List.getElem?_eq_getElem (by omega))
   rw [show a.add (0 * n + 0)=a from by simp [Addr.add]] at hv0
   have hs:=spotless hv0
   rw [hs,hl1]
   refine mk_isl hlc (World.block_lt_of_cell? w _ hv0) (fun h=>h) fun i c hi=>?_
   obtain ⟨k,j,x,rfl,hj,hk,hc⟩:=flat_at hl l hokl i c hi
   obtain ⟨k1,hp,v,hv,hr⟩:=(hl2 k x hk).2 j c hc
   refine ⟨k1,v,?_,fun φ'=>hr.pure1 hp⟩
   rw [← hv,add_none a hs]
theorem tAll_cons {w:World} {b0:Nat} {spare:Nat→Bool} {held:Bool} {ts:List TypeId} {vs:List Value} {ds:List (DataW H)} {ps:List MemPlace} (h:DataW.TrodAll enc P w b0 spare held (t::ts) vs ds ps) :
 ∃ v vs' d ds' p q,vs=v::vs'∧ds=d::ds'∧ps=p++q∧DataW.Trod enc P w b0 spare held t v d p∧DataW.TrodAll enc P w b0 spare held ts vs' ds' q:=by
 cases vs with
 | nil=>exact h.elim
 | cons v vs =>
  cases ds with
  | nil=>exact h.elim
  | cons d ds =>
   obtain ⟨p,q,h1,h2,h3⟩:=h
   exact ⟨v,vs,d,ds,p,q,rfl,rfl,h3,h1,h2⟩
theorem tAll_nil {w:World} {b0:Nat} {spare:Nat→Bool} {held:Bool} {vs:List Value} {ds:List (DataW H)} {ps:List MemPlace} (h:DataW.TrodAll enc P w b0 spare held [] vs ds ps):vs=[]∧ds=[]∧ps=[]:=by
 cases vs with
 | nil =>
  cases ds with
  | nil=>exact ⟨rfl,rfl,h⟩
  | cons d ds=>exact h.elim
 | cons v vs=>cases ds<;>exact h.elim
theorem Opens.argI {w:World} {r:Reach} {base:Nat} {spare:Nat→Bool} {held:Bool} {b0:Nat} {v:Value} {d:DataW H} {p:List MemPlace} {k:IntKind} (ht:P.underlying t=some (.int k)) (_hv:Value.okWide P w r base t v) (h:DataW.Trod enc P w b0 spare held t v d p) :
 ∃ z:Int,v=.int k z∧(Lit.int k z).wf=true:=by
 obtain ⟨z,h1,_,_,h2⟩:=open_int ht _hv h
 exact ⟨z,h1,h2⟩
theorem Opens.argS {w:World} {r:Reach} {base:Nat} {spare:Nat→Bool} {held:Bool} {b0:Nat} {v:Value} {d:DataW H} {p:List MemPlace} (ht:P.underlying t=some (.slice e)) (hv:Value.okWide P w r base t v) (h:DataW.Trod enc P w b0 spare held t v d p) {F:α→AV} (ho:Opens enc P t (fun x=>[F x]) ok) :
 ∃ x,ok x∧Rep (fun _=>False) w mt v (F x):=by
 obtain ⟨a,len,cap,rfl⟩:=okWide_slice ht hv
 obtain ⟨fuel,hf⟩:=h
 obtain ⟨x,h1,h2⟩:=ho w _ _ _ _ _ _ hf
 exact ⟨x,h1,(h2.2 0 _ _ rfl rfl).2.2⟩
end
end Go.Proofs.YtbfnfgpjgdbmeaaGreatDoor
namespace Go.Proofs.YtbfnfgpjgdbmeaaGreatDoor
open Go.RowKit Go.Lib
def Cp (cs:List AV) (k:Nat) (ns cs':List AV):Prop:=∀ (j:Nat) c,cs'[j]?=some c→(k≤j∧ns[j - k]?=some c)∨((j < k∨k + ns.length≤j)∧cs[j]?=some c)
theorem Cp.of {cs ns cs':List AV} {k:Nat} (h:Sp cs k ns cs'):Cp cs k ns cs':=h.2.2
theorem Cp.app {cs ns:List AV} {k:Nat} (h:k=cs.length):Cp cs k ns (cs++ns):=fun j c hj=>by
 subst h
 rcases Nat.lt_or_ge j cs.length with h1|h1
 ·rw [List.getElem?_append_left h1] at hj;exact .inr ⟨.inl h1,hj⟩
 ·rw [List.getElem?_append_right h1] at hj;exact .inl ⟨h1,hj⟩
section
variable {P:Program} {o:Oper} {E:Operand→Option AV} {H:Hp} {f:Nat} {v a:AV} {t tx:TypeId} {l lx:Lay} {size bytes sx bx:Nat} {zero zx:List AV} {x y:Operand} {e ex sz by' m:Nat} {l':Lay} {z' ns:List AV} {rd:List Nat}
theorem LO.copy {r off len:Nat} {cs cs':List AV} (ho:o.op=.call { callee:=.builtin .copy,args:=#[x,y],argTypes:=#[t,tx] }) (hx:E x=some (.osl r off len sz)) (hy:SrcAV E H y sz m ns rd) (hH:H r=some cs) (hs:Cp cs off ns cs')
 (ht:TyOK P t (.sl e) size bytes zero) (htx:TyOK P tx (.sl ex) sx bx zx) (he:TyOK P e l' sz by' z') (h0:0 < sz) (hm0:0 < m) (hm:m≤len) :
 LO P o E H f rd [r] (.base (.int .i64 (m:Int))) (up H r (some cs')):=by
 refine ⟨fun r' hr=>up_ne (by simpa using hr),fun E' K hE hK X φ w ρ hR hst hf=>?_⟩
 rw [ovr_one]
 have hKr:=(hK r (.inr (by simp))).trans hH
 obtain ⟨A,cap,e1,hc,hcase⟩:=(hR x _ ((hE x (by simp [ho,Op.operands,Call.operands])).trans hx)).osl_inv
 obtain ⟨news,hsr,hnl,hns⟩:=hy.src (P:=P) (X:=X) (w:=w) (φ:=φ) (u:=ρ y) (fun r hr=>hK r (.inl hr)) hst (fun a ha=>hR y a ((hE y (by simp [ho,Op.operands,Call.operands])).trans ha)) (lay_sl htx) h0
 obtain ⟨i,z,hi,hsz,hby,hz,hzs⟩:=info_of he
 subst hsz
 obtain ⟨rfl,h1⟩|⟨b,o',hp,rfl,hbs⟩:=hcase
 ·omega
 obtain ⟨c,el,hX,hh,hcs⟩:=hst.cells hKr hp (by omega)
 have hnews:=hsr.newsLen
 have hfit:o' + off + news.length≤c.size:=by
  rw [bsz_of hh] at hbs
  have:m * i.size≤cap * i.size:=Nat.mul_le_mul_right _ (by omega)
  omega
 have hrun:=run_storeCells_at P b (o' + off) el news 0 c w hh (by simpa using hfit) hsr.one
 simp only [Nat.add_zero] at hrun
 have hget:=splice_get c.toList news (o' + off)
 generalize hc':(c.toList.take (o' + off)++news++c.toList.drop (o' + off + news.length)).toArray=c' at hrun
 have hc'g:∀ i,c'[i]?=if i < o' + off then c[i]? else if i < o' + off + news.length then news[i - (o' + off)]? else c[i]?:=by
  intro i
  rw [← hc']
  have:=hget i (by simpa using hfit)
  simpa using this
 have hc's:c'.size=c.size:=by rw [← hc'];simp;omega
 obtain ⟨n1,n2,n3⟩:=hst.put (f:=f) (w':=w.setRow b c') (c':=c') (cs':=cs') hKr hp hh rfl rfl rfl (by simp) (fun b' hb'=>setRow_other w b b' c' hb') (setRow_heap w b c c' el (0,0) hh) hc's (fun j d hj=>by
  rw [hc'g]
  rcases hs j d hj with ⟨h3,h4⟩|⟨h3,h4⟩
  ·have hlt:j - off < ns.length:=(List.getElem?_eq_some_iff.1 h4).1
   obtain ⟨h5,u,h6,h7⟩:=hns _ d h4
   refine ⟨h5,u,?_,h7⟩
   rw [if_neg (by omega),if_pos (by omega),show o' + j - (o' + off)=j - off from by omega]
   exact h6
  ·obtain ⟨h5,u,h6,h7⟩:=hcs j d h4
   refine ⟨h5,u,?_,h7⟩
   rcases h3 with h3|h3
   ·rw [if_pos (by omega)];exact h6
   ·rw [if_neg (by omega),if_neg (by omega)];exact h6)
 unfold OpW
 have hmin:Nat.min m len=m:=Nat.min_eq_left hm
 have hsz:(P.info? e).map (·.size)=some i.size:=by rw [hi];rfl
 have hcr:(Builtin.copy_ #[t,tx] o.type #[.slice (some ⟨b,o' + off,none⟩) len cap,ρ y]).run P w=.ok (goInt m) (w.setRow b c'):=by
  simp only [Builtin.copy_,Sem.run_bind,Sem.run_pure,Result.andThen_ok,List.getElem?_toArray,List.getElem?_cons_zero,List.getElem?_cons_succ,run_underlying (lay_sl ht),hsr.len,hmin,he.sizeOf,hsr.cells,hrun]
 simp only [execOp,ho,resolve,invoke,Go.builtin,Sem.run_bind,Sem.run_pure,Result.andThen_ok,List.map_toArray,List.map_cons,List.map_nil,e1,hcr]
 exact ⟨X,φ,n1,n2,.base _⟩
theorem LO.slice3 {hi mx:Operand} {r off n:Nat} {k1 k2:IntKind} (ho:o.op=.slice t x none (some hi) (some mx)) (hx:E x=some (.osl r off n sz)) (hh:E hi=some (.base (.int k1 (n:Int)))) (hm:E mx=some (.base (.int k2 (n:Int)))) (hn0:0 < n) (ht:TyOK P t (.sl e) size bytes zero) (he:TyOK P e l' sz by' z') :
 LO P o E H f [] [] (.osl r off n sz) H :=
 .pure fun X φ w ρ hR=>by
  obtain ⟨A,cap,e1,hc,hcase⟩:=(hR x (by simp [ho,Op.operands]) _ hx).osl_inv
  have e2:=(hR hi (by simp [ho,Op.operands]) _ hh).base_eq
  have e3:=(hR mx (by simp [ho,Op.operands]) _ hm).base_eq
  obtain ⟨h1,h2⟩|⟨b,o',hp,rfl,hs⟩:=hcase
  ·omega
  have hn:(0:Int)≤(n:Int)∧(n:Int)≤(cap:Int):=by omega
  have hb:(Instr.sliceBounds true n cap (none:Option Value) (some (.int k1 (n:Int))) (some (.int k2 (n:Int)))).run P w=.ok (0,n,n) w:=by
   simp [Instr.sliceBounds,Instr.sliceBound,asIntOf,show n≤cap by omega]
  refine ⟨.slice (some ⟨b,o' + off,none⟩) n n,?_,.osl r off n sz b o' n hp (Nat.le_refl _) ?_⟩
  ·have h9:(Instr.slice t (.slice (some ⟨b,o' + off,none⟩) n cap) none (some (.int k1 (n:Int))) (some (.int k2 (n:Int)))).run P w=.ok (.slice (some ⟨b,o' + off,none⟩) n n) w:=by
    unfold Instr.slice
    simp [run_underlying (lay_sl ht),hb,he.sizeOf,Addr.add]
   simp only [execOp,ho,e1,e2,e3,Option.map_none,Option.map_some,Instr.sliceAt,Sem.run_bind,run_underlying (lay_sl ht),h9,Result.andThen_ok,Sem.run_pure]
  ·have:n * sz≤cap * sz:=Nat.mul_le_mul_right _ hc
   omega
end
section
variable {P:Program} {o:Oper} {E:Operand→Option AV} {H:Hp} {f:Nat} {v a:AV} {t tx:TypeId} {l lx:Lay} {size bytes sx bx:Nat} {zero zx:List AV} {x y:Operand} {e ex sz by' m:Nat} {l':Lay} {z' ns:List AV} {rd:List Nat}
theorem LO.copy_nil {r off len:Nat} (ho:o.op=.call { callee:=.builtin .copy,args:=#[x,y],argTypes:=#[t,tx] }) (hx:E x=some (.osl r off len sz)) (hy:E y=some a) (ha:a.isl?=some (ns,0)) (ht:TyOK P t (.sl e) size bytes zero) (he:TyOK P e l' sz by' z') :
 LO P o E H f [] [] (.base (.int .i64 0)) H :=
 .pure fun X φ w ρ hR=>by
  obtain ⟨A,cap,e1,hc,hcase⟩:=(hR x (by simp [ho,Op.operands,Call.operands]) _ hx).osl_inv
  obtain ⟨A2,cap2,e2,_,_⟩:=(hR y (by simp [ho,Op.operands,Call.operands]) _ hy).isl_inv ha
  refine ⟨.int .i64 0,?_,.base _⟩
  have hcr:(Builtin.copy_ #[t,tx] o.type #[.slice A len cap,.slice A2 0 cap2]).run P w=.ok (goInt 0) w:=by
   cases A<;>cases A2<;>simp [Builtin.copy_,loadCells,loadCellsFrom,run_underlying (lay_sl ht),Builtin.lenOf,Builtin.firstCells,he.sizeOf,storeCells]
  simp only [execOp,ho,resolve,invoke,Go.builtin,Sem.run_bind,Sem.run_pure,Result.andThen_ok,List.map_toArray,List.map_cons,List.map_nil,e1,e2,hcr]
  rfl
end
end Go.Proofs.YtbfnfgpjgdbmeaaGreatDoor
namespace Go.Proofs.YtbfnfgpjgdbmeaaGreatDoor
open Go.RowKit
section
variable {P:Program} {o:Oper} {E:Operand→Option AV} {H:Hp} {f:Nat} {v v':AV} {g:FuncId} {xs:Array Operand} {ts:Array TypeId} {args:List AV} {fr:List Nat}
theorem LO.callT {q:Nat} {cs cs':List AV} (ho:o.op=.call { callee:=.value (.func g),args:=xs,argTypes:=ts }) (hE:E (.func g)=some (.base (.func (.func g) #[] #[]))) (h:AFn P g 1 args (up mt 0 (some cs)) v (up mt 1 (some cs'))) (hF:FnOK P g)
 (hargs:Args E H fr (some q) xs.toList args) (hH:H q=some cs) (hp:cs.all AV.pure1=true) (hp':cs'.all AV.pure1=true) (h0:cs≠[]) (hqf:q ∉ fr) (hff2:f ∉ fr) (hqn:q≠f) (hv:∀ (X:Nat→Prop) (w:World) (φ φ2:Em) (x:Value),Rep X w φ x v→φ2 f=φ 1→Rep X w φ2 x v') :
 LO P o E H f [] (f::q::fr) v' (up (up (frK H fr) q none) f (some cs')):=by
 refine ⟨fun r hr=>by simp at hr;rw [up_ne hr.1,up_ne hr.2.1];exact if_neg hr.2.2,fun E' K hE' hK X φ w ρ hR hst hff=>?_⟩
 have hKf:∀ r,r∈fr→K r=H r:=fun r hr=>hK r (.inr (by simp [hr]))
 have hKq:K q=some cs:=(hK q (.inr (by simp))).trans hH
 have hov:ovr K (f::q::fr) (up (up (frK H fr) q none) f (some cs'))=up (up (frK K fr) q none) f (some cs'):=by
  funext r
  unfold ovr
  by_cases h1:r=f
  ·subst h1;simp [up_at]
  ·rw [up_ne h1,up_ne h1]
   by_cases h2:r=q
   ·subst h2;simp [up_at]
   ·rw [up_ne h2,up_ne h2]
    unfold frK
    by_cases h3:r∈fr<;>simp [h1,h2,h3]
 rw [hov]
 obtain ⟨fn,hf,hname,hb⟩:=hF
 have hops:o.op.operands=#[.func g]++xs:=by rw [ho];rfl
 have hρ:ρ (.func g)=.func (.func g) #[] #[]:=(hR (.func g) _ ((hE' _ (by rw [hops];simp)).trans hE)).base_eq
 unfold OpW
 rw [run_call ho hρ hf hname hb]
 let φc:Em:=fun i=>if i=0 then φ q else none
 obtain ⟨g1,g2⟩:=hargs.rep (K:=K) (X:=X) (φ:=φ) (φ':=φc) (w:=w) (ρ:=ρ) hKf hst (fun x hx a ha=>hR x a ((hE' x (by rw [hops];simp;exact .inr (by simpa using hx))).trans ha)) (fun q' h=>by injection h with h;subst h;exact if_pos rfl)
 have hst1:=hst.frz (fr:=fr)
 have hKq1:frK K fr q=some cs:=by unfold frK;rw [if_neg hqf];exact hKq
 obtain ⟨b0,o0,hq1,hq2,hq3⟩:∃ b o,φ q=some (b,o)∧frX X K φ fr b∧Blk (frX X K φ fr) φ w b o cs:=by
  rcases hst1.1 q cs hKq1 with ⟨h1,_⟩|h1
  ·exact absurd h1 h0
  ·exact h1
 have hc1:∀ r cs1,(up mt 0 (some cs):Hp) r=some cs1→r=0∧cs1=cs:=by
  intro r cs1 hr
  by_cases h1:r=0
  ·subst h1;rw [up_at] at hr;injection hr with hr;exact ⟨rfl,hr.symm⟩
  ·rw [up_ne h1] at hr;cases hr
 have hstc:St (frX X K φ fr) φc (up mt 0 (some cs)) w:=by
  refine ⟨fun r cs1 hr=>?_,fun r r' c c' b o o' i1 i2 _ _=>by rw [(hc1 r c i1).1,(hc1 r' c' i2).1],hst1.gl⟩
  obtain ⟨rfl,rfl⟩:=hc1 r cs1 hr
  exact .inr ⟨b0,o0,by show (if 0=0 then φ q else none)=_;rw [if_pos rfl];exact hq1,hq2,hq3.keepP rfl fun v a ha h=>h.pure1 (List.all_eq_true.1 hp a ha)⟩
 refine (h (frX X K φ fr) φc w (xs.map ρ) (by simp;simpa using g1) (fun i x a hx ha=>g2 i x a (by simpa using hx) ha) hstc (fun r hr=>if_neg (by omega))).mono ?_
 rintro e w' ⟨x,X',φ',rfl,h1,h2,h3⟩
 have hkeep:∀ v a,Rep (frX X K φ fr) w φ v a→Rep X' w' φ v a:=fun v a hr=>hr.keep h1.size (fun b hb hx=>h1.same b hb fun r cs1 o i1 i2=>by
  obtain ⟨rfl,rfl⟩:=hc1 r cs1 i1
  have:φ q=some (b,o):=i2
  rw [hq1] at this
  injection this with this
  injection this with this _
  subst this
  exact hx hq2) h1.bs h1.xs (fun _ _ h=>h)
 have hne:∀ r c b o,r≠q→frK K fr r=some c→φ r=some (b,o)→b≠b0:=fun r c b o i1 i2 i3 i4=>i1 (hst1.2 r q c cs b o o0 i2 hKq1 i3 (by rw [hq1,i4]))
 have hbn:∀ b o',φ' 1=some (b,o')→w.heap.size≤b∨b=b0:=fun b o' hp0=>by
  rcases h1.lv 1 cs' b o' (up_at _ _ _) hp0 with h4|⟨r,cs1,o1,h4,h5⟩
  ·exact .inl h4
  ·obtain ⟨rfl,rfl⟩:=hc1 r cs1 h4
   have:φ q=some (b,o1):=h5
   rw [hq1] at this
   injection this with this
   injection this with this _
   exact .inr this.symm
 let φ2:Em:=fun r=>if r=f then φ' 1 else φ r
 have hφf:φ2 f=φ' 1:=if_pos rfl
 have hφn:∀ r,r≠f→φ2 r=φ r:=fun r h=>if_neg h
 have hφe:∀ r y,φ r=some y→φ2 r=some y:=fun r y h=>by
  rw [hφn r (fun e=>by rw [e,hff] at h;cases h)];exact h
 have hkeep2:∀ v a,Rep X' w' φ v a→Rep X' w' φ2 v a:=fun v a h=>h.keep (Nat.le_refl _) (fun _ _ _=>rfl) (fun _ _=>rfl) (fun _ _ h=>h) hφe
 have hold:∀ r c,r≠f→up (up (frK K fr) q none) f (some cs') r=some c→r≠q∧frK K fr r=some c:=fun r c hr h=>by
  rw [up_ne hr] at h
  by_cases e:r=q
  ·subst e;rw [up_at] at h;cases h
  ·rw [up_ne e] at h;exact ⟨e,h⟩
 have hlt:∀ r c o2 b2,frK K fr r=some c→φ r=some (b2,o2)→b2 < w.heap.size:=by
  intro r c o2 b2 i1 i2
  obtain ⟨_,i3⟩|⟨b3,o3,i3,_,i4⟩:=hst1.1 r c i1
  ·rw [i3] at i2;cases i2
  ·rw [i3] at i2;injection i2 with i2;injection i2 with i2 _;subst i2;exact i4.lt
 refine ⟨x,rfl,X',φ2,?_,⟨fun r cs1 hr=>?_,fun r1 r2 c1 c2 b1 o1 o2 i1 i2 i3 i4=>?_,h2.gl⟩,hv _ _ _ _ _ h3 hφf⟩
 ·refine (Nxt.frz (fr:=fr)).trans ⟨h1.os,h1.tape,h1.output,h1.size,fun b hb hn=>h1.same b hb (fun r cs1 o i1 i2=>?_),h1.bs,h1.xs,fun b hb hx=>?_,fun r hr=>hφn r hr,fun r cs1 b1 o1 i1 i2=>?_⟩ fun _ h=>h
  ·obtain ⟨rfl,rfl⟩:=hc1 r cs1 i1
   exact hn q _ o hKq1 i2
  ·rcases h1.xk b hb hx with i1|⟨r,cs1,o,i1,i2⟩
   ·exact .inl i1
   ·obtain ⟨rfl,rfl⟩:=hc1 r cs1 i1
    exact .inr ⟨q,_,o,hKq1,i2⟩
  ·by_cases hr:r=f
   ·subst hr
    rw [hφf] at i2
    rcases hbn b1 o1 i2 with h4|rfl
    ·exact .inl h4
    ·exact .inr ⟨q,cs,o0,hKq1,hq1⟩
   ·obtain ⟨_,j2⟩:=hold r cs1 hr i1
    rw [hφn r hr] at i2
    exact .inr ⟨r,cs1,o1,j2,i2⟩
 ·by_cases hrf:r=f
  ·subst hrf
   rw [up_at] at hr
   injection hr with hr
   subst hr
   obtain ⟨h4,h5⟩|⟨b1,o1,h4,h5,h6⟩:=h2.1 1 cs' (up_at _ _ _)
   ·exact .inl ⟨h4,by rw [hφf];exact h5⟩
   ·exact .inr ⟨b1,o1,by rw [hφf];exact h4,h5,h6.keepP rfl fun v a ha h=>h.pure1 (List.all_eq_true.1 hp' a ha)⟩
  ·obtain ⟨hrq,hr⟩:=hold r cs1 hrf hr
   obtain ⟨i1,i2⟩|⟨b1,o1,i1,i2,i3⟩:=hst1.1 r cs1 hr
   ·exact .inl ⟨i1,by rw [hφn r hrf];exact i2⟩
   ·have hbne:=hne r cs1 b1 o1 hrq hr i1
    have hown:∀ r' cs2 o2,(up mt 0 (some cs):Hp) r'=some cs2→φc r'≠some (b1,o2):=fun r' cs2 o2 k1 k2=>by
     obtain ⟨rfl,rfl⟩:=hc1 r' cs2 k1
     have:φ q=some (b1,o2):=k2
     rw [hq1] at this
     injection this with this
     injection this with this _
     exact hbne this.symm
    refine .inr ⟨b1,o1,by rw [hφn r hrf];exact i1,?_,i3.keep (h1.same b1 i3.lt hown) fun v a h=>hkeep2 _ _ (hkeep _ _ h)⟩
    rcases h1.xk b1 i3.lt i2 with k1|⟨r',cs2,o2,k1,k2⟩
    ·exact k1
    ·exact absurd k2 (hown r' cs2 o2 k1)
 ·by_cases hr1:r1=f
  ·by_cases hr2:r2=f
   ·rw [hr1,hr2]
   ·exfalso
    obtain ⟨k1,k2⟩:=hold r2 c2 hr2 i2
    rw [hφn r2 hr2] at i4
    rw [hr1,hφf] at i3
    have hl:=hlt r2 c2 o2 b1 k2 i4
    rcases hbn b1 o1 i3 with h4|h4
    ·omega
    ·exact hne r2 c2 b1 o2 k1 k2 i4 h4
  ·obtain ⟨k1,k2⟩:=hold r1 c1 hr1 i1
   rw [hφn r1 hr1] at i3
   by_cases hr2:r2=f
   ·exfalso
    rw [hr2,hφf] at i4
    have hl:=hlt r1 c1 o1 b1 k2 i3
    rcases hbn b1 o2 i4 with h4|h4
    ·omega
    ·exact hne r1 c1 b1 o1 k1 k2 i3 h4
   ·obtain ⟨k3,k4⟩:=hold r2 c2 hr2 i2
    rw [hφn r2 hr2] at i4
    exact hst1.2 r1 r2 c1 c2 b1 o1 o2 k2 k4 i3 i4
theorem AFn.phantom {k:Nat} {H0:Hp} (h:AFn P g k args H0 v mt) (hv:v.pure=true):AFn P g k args H0 v (up mt k (some [])):=fun X φ w vals h1 h2 h3 h4=>by
 refine (h X φ w vals h1 h2 h3 h4).mono ?_
 rintro e w' ⟨x,X',φ',rfl,g1,g2,g3⟩
 have e1:∀ r cs,(up mt k (some []):Hp) r=some cs→r=k∧cs=[]:=fun r cs hr=>by
  by_cases h:r=k
  ·subst h;rw [up_at] at hr;injection hr with hr;exact ⟨rfl,hr.symm⟩
  ·rw [up_ne h] at hr;cases hr
 refine ⟨x,X',fun r=>if r=k then none else φ' r,rfl,⟨g1.os,g1.tape,g1.output,g1.size,g1.same,g1.bs,g1.xs,g1.xk,fun r hr=>?_,fun r cs b o i1 i2=>?_⟩,⟨fun r cs hr=>?_,fun r r' cs cs' b o o' i1 i2 i3 i4=>?_,g2.gl⟩,g3.pure hv⟩
 ·have hrk:r≠k:=fun e=>hr (Nat.le_of_eq e.symm)
  show (if r=k then none else φ' r)=_
  rw [if_neg hrk];exact g1.ph r hr
 ·obtain ⟨rfl,_⟩:=e1 r cs i1
  simp at i2
 ·obtain ⟨rfl,rfl⟩:=e1 r cs hr
  exact .inl ⟨rfl,if_pos rfl⟩
 ·rw [(e1 r cs i1).1,(e1 r' cs' i2).1]
theorem LO.callD {q:Nat} {cs:List AV} (ho:o.op=.call { callee:=.value (.func g),args:=xs,argTypes:=ts }) (hE:E (.func g)=some (.base (.func (.func g) #[] #[]))) (h:AFn P g 1 args (up mt 0 (some cs)) v mt) (hF:FnOK P g)
 (hargs:Args E H fr (some q) xs.toList args) (hH:H q=some cs) (hp:cs.all AV.pure1=true) (hv:v.pure=true) (h0:cs≠[]) (hqf:q ∉ fr) (hff2:f ∉ fr) (hqn:q≠f):LO P o E H f [] (f::q::fr) v (up (up (frK H fr) q none) f (some [])) :=
 .callT ho hE (h.phantom hv) hF hargs hH hp rfl h0 hqf hff2 hqn fun _ _ _ _ _ hr _=>hr.pure hv
theorem LO.callB {u:Value} (ho:o.op=.call { callee:=.value (.func g),args:=xs,argTypes:=ts }) (hE:E (.func g)=some (.base (.func (.func g) #[] #[]))) (h:AFn P g 0 args mt (.base u) mt) (hF:FnOK P g)
 (hargs:Args E H fr none xs.toList args):LO P o E H f fr [] (.base u) H:=by
 refine ⟨fun _ _=>rfl,fun E' K hE' hK X φ w ρ hR hst hff=>?_⟩
 rw [ovr_nil]
 have hKf:∀ r,r∈fr→K r=H r:=fun r hr=>hK r (.inl hr)
 obtain ⟨fn,hf,hname,hb⟩:=hF
 have hops:o.op.operands=#[.func g]++xs:=by rw [ho];rfl
 have hρ:ρ (.func g)=.func (.func g) #[] #[]:=(hR (.func g) _ ((hE' _ (by rw [hops];simp)).trans hE)).base_eq
 unfold OpW
 rw [run_call ho hρ hf hname hb]
 obtain ⟨g1,g2⟩:=hargs.rep (K:=K) (X:=X) (φ:=φ) (φ':=mt) (w:=w) (ρ:=ρ) hKf hst (fun x hx a ha=>hR x a ((hE' x (by rw [hops];simp;exact .inr (by simpa using hx))).trans ha)) (fun q h=>by cases h)
 refine (h (frX X K φ fr) mt w (xs.map ρ) (by simp;simpa using g1) (fun i x a hx ha=>g2 i x a (by simpa using hx) ha) ⟨fun r cs h=>(by cases h),fun r r' cs cs' b o o' h=>(by cases h),hst.frz.gl⟩ (fun _ _=>rfl)).mono ?_
 rintro e w' ⟨x,X',φ',rfl,h1,h2,h3⟩
 have hsame:∀ b,b < w.heap.size→w'.heap[b]?=w.heap[b]?:=fun b hb=>h1.same b hb fun _ _ _ h=>by cases h
 let X2:Nat→Prop:=fun b=>b < w.heap.size∧X b
 have hkeep:∀ v a,Rep X w φ v a→Rep X2 w' φ v a:=fun v a hr=>hr.keep h1.size (fun b hb _=>hsame b hb) h1.bs (fun b _ hx=>hx.2) (fun _ _ h=>h)
 refine ⟨x,rfl,X2,φ,⟨h1.os,h1.tape,h1.output,h1.size,fun b hb _=>hsame b hb,h1.bs,fun b _ hx=>hx.2,fun b hb hx=>.inl ⟨hb,hx⟩,fun _ _=>rfl,fun r cs b o i1 i2=>.inr ⟨r,cs,o,i1,i2⟩⟩,⟨fun r cs hr=>?_,hst.2,hst.gl.keep h1.size (fun b hb _=>hsame b hb) (fun b _ hx=>hx.2)⟩,by rw [h3.base_eq];exact .base u⟩
 obtain i1|⟨b,o',i1,i2,i3⟩:=hst.1 r cs hr
 ·exact .inl i1
 ·exact .inr ⟨b,o',i1,⟨i3.lt,i2⟩,i3.keep (hsame b i3.lt) hkeep⟩
end
theorem Rep.nil_isl {X:Nat→Prop} {w:World} {φ:Em} {v:Value} (h:Rep X w φ v .nils):Rep X w φ v (.isl [] 0):=by
 cases h
 exact .isl0 _ _
section
variable {P:Program} {k n m:Nat} {T:Tp} {H:Hp} {K:Exit→Nat→Tp→Hp→Prop} {c:Code}
theorem W.nilt {t:Nat} (ht:T t=some .nils) (h:W P k n c m (up T t (some (.isl [] 0))) H K):W P k n c m T H K:=by
 obtain ⟨e,m2,T2,H2,h1,h2⟩:=h
 refine ⟨e,m2,T2,H2,h1,fun B hB a w hs=>h2 B hB a w ?_⟩
 obtain ⟨h0,X,φ,g1,g2,g3,g4,g5,g6⟩:=hs
 exact ⟨h0,X,φ,g1,g2,g3,g4,all_up (p:=fun t v=>Rep X w φ (a.tmps.getD t undef) v) (g5 t _ ht).nil_isl g5,g6⟩
theorem W.nilc {q j:Nat} {qs qs':List AV} (hq:H q=some qs) (hj:qs[j]?=some .nils) (hs:Sp qs j [.isl [] 0] qs') (h:W P k n c m T (up H q (some qs')) K):W P k n c m T H K:=by
 obtain ⟨e,m2,T2,H2,h1,h2⟩:=h
 refine ⟨e,m2,T2,H2,h1,fun B hB a w hsim=>h2 B hB a w ?_⟩
 obtain ⟨h0,X,φ,g1,g2,g3,g4,g5,g6⟩:=hsim
 have hup:∀ r' c',up H q (some qs') r'=some c'→∃ c0,H r'=some c0:=fun r' c' h=>by
  by_cases e:r'=q
  ·subst e;exact ⟨qs,hq⟩
  ·rw [up_ne e] at h;exact ⟨c',h⟩
 refine ⟨h0,X,φ,{ g1 with lv:=fun r' c' b o j1 j2=>by obtain ⟨c0,j3⟩:=hup r' c' j1;exact g1.lv r' c0 b o j3 j2 },g2,g3,⟨fun r' c' hr'=>?_,fun r1 r2 c1 c2 b o1 o2 j1 j2 j3 j4=>?_,g4.gl⟩,g5,g6⟩
 ·by_cases e:r'=q
  ·subst e
   rw [up_at] at hr'
   injection hr' with hr'
   subst hr'
   obtain ⟨k1,k2⟩|⟨b,o,k1,k2,k0⟩:=g4.1 r' qs hq
   ·rw [k1] at hj;simp at hj
   ·obtain ⟨c1,el,k3,k4⟩:=k0.cells_one hj rfl
    refine .inr ⟨b,o,k1,k2,.cells c1 el k3 fun j' a' hj'=>?_⟩
    rcases hs.2.2 j' a' hj' with ⟨j1,j2⟩|⟨_,j2⟩
    ·have e1:j' - j=0:=by have:=(List.getElem?_eq_some_iff.1 j2).1;simp at this;omega
     have e2:j'=j:=by omega
     rw [e1] at j2
     simp at j2
     subst e2 j2
     obtain ⟨_,u,k5,k6⟩:=k4 j' _ hj
     exact ⟨rfl,u,k5,k6.nil_isl⟩
    ·exact k4 j' a' j2
  ·rw [up_ne e] at hr';exact g4.1 r' c' hr'
 ·obtain ⟨d1,l1⟩:=hup r1 c1 j1
  obtain ⟨d2,l2⟩:=hup r2 c2 j2
  exact g4.2 r1 r2 d1 d2 b o1 o2 l1 l2 j3 j4
end
section
variable {P:Program} {k n m:Nat} {T:Tp} {H:Hp} {K:Exit→Nat→Tp→Hp→Prop} {c:Code}
theorem W.frzo {t r off:Nat} {cs:List AV} (ht:T t=some (.own r off)) (hr:H r=some cs) (hp:cs.all AV.pure1=true) (h:W P k n c m (up T t (some (.imm cs off))) (up H r none) K):W P k n c m T H K:=by
 rw [← frK_one] at h
 refine W.freeze [r] (all_up (p:=fun t v=>∃ u,T t=some u∧(u=v∨Fz H [r] u v)) ⟨_,ht,.inr (.one (.own (by simp) hr hp))⟩ fun t v h=>⟨v,h,.inl rfl⟩) h
end
section
variable {P:Program} {o:Oper} {E:Operand→Option AV} {H:Hp} {f:Nat} {t:TypeId} {size bytes:Nat} {zero:List AV} {x:Operand} {e sz by':Nat} {l':Lay} {z':List AV}
theorem LO.slice_imm {off n:Nat} {cs vs:List AV} (ho:o.op=.slice t x none none none) (hx:E x=some (.imm cs off)) (ht:TyOK P t (.arr n e) size bytes zero) (he:TyOK P e l' sz by' z') (hv:Tk cs off (n * sz) vs) (hn:0 < n):LO P o E H f [] [] (.isl vs n) H :=
 .pure fun X φ w ρ hR=>by
  have h:=hR x (by simp [ho,Op.operands]) _ hx
  generalize hq:ρ x=u at h
  cases h with
  | imm _ _ b o' us hb hxb h1 hc h =>
   refine ⟨.slice (some ⟨b,o' + off,none⟩) n n,?_,mk_isl (Nat.le_refl _) hb hxb fun i c hi=>?_⟩
   ·have hb2:(Instr.sliceBounds false n n none none none).run P w=.ok (0,n,n) w:=by simp [Instr.sliceBounds]
    have hn0:¬ n=0:=by omega
    simp only [execOp,ho,hq,Instr.sliceAt,Option.map_none,Sem.run_bind,run_underlying (lay_ar ht),Result.andThen_ok,Instr.sureAddr,Sem.run_pure,hb2,he.sizeOf,hn0,if_false,Addr.add_lit,Nat.zero_mul,Nat.add_zero,Nat.sub_zero]
   ·have hi2:=hv.2 i c hi
    have h2:=hc _ c hi2
    refine ⟨h1 _ c hi2,us (off + i),by rw [Nat.add_assoc];exact h2,fun φ'=>?_⟩
    have h3:=h _ c hi2
    exact h3.keep (Nat.le_refl _) (fun _ _ _=>rfl) (fun _ _=>rfl) (fun _ _ h=>h) (fun _ _ h=>by cases h)
end
end Go.Proofs.YtbfnfgpjgdbmeaaGreatDoor
namespace Go.Proofs.YtbfnfgpjgdbmeaaGreatDoor
open Go.RowKit Go.Lib
def joinT (l:List (Nat × AV)):Tp:=baseT l
theorem W.renameJ {P:Program} {k n m:Nat} {T:Tp} {H:Hp} {K:Exit→Nat→Tp→Hp→Prop} {c:Code} (L:List (Nat × Nat)) (m2:Nat) {l:List (Nat × AV)} {H':Hp} (hL:okL k m2 L=true)
 (hT:LookR (sg L m) T l) (hH:∀ r cs,H' r=some cs→RenH L m H r cs) (h:W P k n c m2 (joinT l) H' K):W P k n c m T H K :=
 W.rename L m2 hL hT.all hH h
theorem W.joinK {P:Program} {k n m:Nat} {T:Tp} {H:Hp} {K:Exit→Nat→Tp→Hp→Prop} {x y:Code} {α:Type} {vs:List (Nat × AV)} (m2:Nat) (os:α→List (Nat × AV)) (Hf:α→Hp) (A:α→Prop)
 (_hk:LookK (fun r=>r) T vs) (h1:W P k n x m T H (thenK (fun m T H=>Joins P k n m2 (fun a=>joinT (os a++vs)) Hf A m T H) K)) (h2:∀ a,A a→W P k n y m2 (joinT (os a++vs)) (Hf a) K):W P k n x m T H (thenK (fun m T H=>W P k n y m T H K) K):=by
 refine h1.mono fun e m T H h=>?_
 cases e with
 | normal=>exact h y K h2
 | _=>exact h
section
variable {P:Program} {o:Oper} {E:Operand→Option AV} {H:Hp} {f:Nat} {t tn:TypeId} {size bytes sn bn:Nat} {zero zn:List AV} {x y:Operand} {e sz by':Nat} {l':Lay} {z':List AV}
theorem LO.append_zeros {r off len n:Nat} {k kn:IntKind} {cs olds:List AV} (ho:o.op=.call { callee:=.builtin .append,args:=#[x,y],argTypes:=#[t,tn] }) (hx:E x=some (.osl r off len sz)) (hy:E y=some (.base (.int k (n:Int)))) (hH:H r=some cs) (hv:Tk cs off (len * sz) olds)
 (ht:TyOK P t (.sl e) size bytes zero) (htn:TyOK P tn (.int kn) sn bn zn) (he:TyOK P e l' sz by' z') (h0:0 < sz) (hl0:0 < len) (hn0:0 < n) (hm:(len + n) * by'≤140737488355328) (hm2:len + n≤9223372036854775807) (hrf:r≠f) :
 LO P o E H f [] [f,r] (.osl f 0 (len + n) sz) (up (up H r none) f (some (olds++zerosL n z'))):=by
 refine ⟨fun r' hr'=>by simp at hr';rw [up_ne hr'.1,up_ne hr'.2],fun E' K hE hK X φ w ρ hR hst hf=>?_⟩
 rw [ovr_two]
 have hKr:=(hK r (.inr (by simp))).trans hH
 obtain ⟨A,cap,e1,hc,hcase⟩:=(hR x _ ((hE x (by simp [ho,Op.operands,Call.operands])).trans hx)).osl_inv
 have e2:=(hR y _ ((hE y (by simp [ho,Op.operands,Call.operands])).trans hy)).base_eq
 obtain ⟨z,hz0,hzs,hzm,hzl,hz1⟩:=he.zeroV
 obtain ⟨i,zz,hi,hsz,hby,hz,_⟩:=info_of he
 obtain ⟨inf,hi1,hi2⟩:=he.info w
 have hzz:zz=z:=by
  have h:=hz0 w
  simp [zeroValue,typeInfo,hi,hz] at h
  exact h
 subst hzz
 subst hsz
 have hgz:=good_zeros (X:=X) (w:=w) (φ:=φ) n hzm hz1 (by omega)
 rw [hzl] at hgz
 obtain ⟨news,hnews⟩:∃ news:List Value,(Builtin.zeroCells zz.cells n).toList=news:=⟨_,rfl⟩
 have hnl:news.length=n * i.size:=by rw [← hnews,Array.length_toList,size_zeroCells,hzs]
 have hns:∀ (j:Nat) c,(zerosL n z')[j]?=some c→c.one=true∧∃ u,news[j]?=some u∧Rep X w φ u c:=fun j c hj=>by
  obtain ⟨g1,u,g2,g3⟩:=hgz.2 j c hj
  refine ⟨g1,u,?_,g3⟩
  have h9:(Builtin.zeroCells zz.cells n)[j]?=some u:=by
   unfold Builtin.zeroCells
   rw [hzs]
   rw [hzs] at g2
   exact g2
  rw [← hnews,Array.getElem?_toList]
  exact h9
 have hn1:∀ u∈news,u.oneCell'=true:=fun u hu=>by
  obtain ⟨j,hj⟩:=List.getElem?_of_mem hu
  have hlt:j < (zerosL n z').length:=by rw [zerosL_len,hzl,← hnl];exact (List.getElem?_eq_some_iff.1 hj).1
  obtain ⟨g1,u',g2,g3⟩:=hns j _ (List.getElem?_eq_getElem hlt)
  rw [hj] at g2;injection g2 with g2;subst g2
  exact g3.oneCell g1
 have hdrop:∀ c:List AV,∀ r' cs',up (up K r none) f (some c) r'=some cs'→up K f (some c) r'=some cs':=by
  intro c r' cs' h
  by_cases h1:r'=f
  ·subst h1;rw [up_at] at h ⊢;exact h
  ·rw [up_ne h1] at h ⊢
   by_cases h2:r'=r
   ·subst h2;rw [up_at] at h;cases h
   ·rwa [up_ne h2] at h
 obtain ⟨h1,_⟩|⟨b,o',hp,hA,hbz⟩:=hcase
 ·omega
 subst hA
 obtain ⟨c,el,hX,hh,hcs⟩:=hst.cells hKr hp (by omega)
 rw [bsz_of hh] at hbz
 by_cases hroom:len + n≤cap
 ·have hmul:len * i.size + n * i.size≤cap * i.size:=by rw [← Nat.add_mul];exact Nat.mul_le_mul_right _ hroom
  have hfit:o' + off + len * i.size + news.length≤c.size:=by rw [hnl];omega
  have hsto:=run_storeCells_at P b (o' + off + len * i.size) el news 0 c w hh (by simpa using hfit) hn1
  have hrun:(Builtin.append_ #[t,tn] o.type #[.slice (some ⟨b,o' + off,none⟩) len cap,.int k (n:Int)]).run P w=.ok (.slice (some ⟨b,o' + off,none⟩) (len + n) cap) (w.setRow b (c.toList.take (o' + off + len * i.size)++news++c.toList.drop (o' + off + len * i.size + news.length)).toArray):=by
   have hk:n≠0:=by omega
   have hw:IntKind.i64.wrap (n:Int)=n:=IntWalk.i64_in _ (by omega)
   have hneg:¬ ((n:Int) < 0):=by omega
   have hns:¬ (n * i.size=0):=Nat.mul_ne_zero hk (by omega)
   have h48:¬ (281474976710656 < (n:Int) * (i.bytes:Int)):=by
    rw [← Int.natCast_mul]
    have:n * i.bytes≤(len + n) * by':=by rw [hby];exact Nat.mul_le_mul_right _ (by omega)
    omega
   simp only [Nat.add_zero] at hsto
   simp [Builtin.append_,run_underlying (lay_sl ht),run_underlying (lay_int htn),sizeOf,typeInfo,zeroValue,hi,hz,asInt,asIntOf,hw,hneg,hns,h48,hroom,hnews,Addr.add_lit,hsto]
  have hget:=splice_get c.toList news (o' + off + len * i.size)
  generalize hc':(c.toList.take (o' + off + len * i.size)++news++c.toList.drop (o' + off + len * i.size + news.length)).toArray=c' at hrun
  have hc's:c'.size=c.size:=by rw [← hc'];simp;omega
  unfold OpW
  simp only [execOp,ho,resolve,invoke,Go.builtin,Sem.run_bind,Sem.run_pure,Result.andThen_ok,List.map_toArray,List.map_cons,List.map_nil,e1,e2,hrun]
  obtain ⟨h1,h2,h3⟩:=hst.reuse (f:=f) (w':=w.setRow b c') (c':=c') (o':=o' + off) (cs':=olds++zerosL n z') hKr hp hh hf rfl rfl rfl (by simp) (fun b' hb'=>setRow_other w b b' c' hb') (setRow_heap w b c c' el (0,0) hh) hc's (fun j d hj=>by
   have hg2:c'[o' + off + j]?=if o' + off + j < o' + off + len * i.size then c[o' + off + j]? else if o' + off + j < o' + off + len * i.size + news.length then news[o' + off + j - (o' + off + len * i.size)]? else c[o' + off + j]?:=by
    rw [← hc']
    have:=hget (o' + off + j) (by simpa using hfit)
    simpa using this
   rw [hg2]
   rw [List.getElem?_append] at hj
   split at hj
   ·rename_i hlt
    obtain ⟨g1,u,g2,g3⟩:=hcs _ d (hv.2 j d hj)
    rw [hv.1] at hlt
    exact ⟨g1,u,by rw [if_pos (by omega),Nat.add_assoc];exact g2,g3⟩
   ·rename_i hge
    obtain ⟨g1,u,g2,g3⟩:=hns _ d hj
    have hlt:j - olds.length < news.length:=(List.getElem?_eq_some_iff.1 g2).1
    rw [hv.1] at hge hlt g2
    exact ⟨g1,u,by rw [if_neg (by omega),if_pos (by omega),show o' + off + j - (o' + off + len * i.size)=j - len * i.size from by omega];exact g2,g3⟩)
  refine ⟨_,_,h1,h2,?_⟩
  have hbz2:bsz (w.setRow b c') b=c.size + 1:=by rw [bsz_of (setRow_heap w b c c' el (0,0) hh),hc's]
  have:=Rep.osl (X:=X) (w:=w.setRow b c') (φ:=fun x=>if x=f then some (b,o' + off) else φ x) f 0 (len + n) i.size b (o' + off) cap h3 hroom (by rw [hbz2];omega)
  exact this
 ·have holdsAt:∀ (j:Nat) d,olds[j]?=some d→d.one=true∧∃ u,w.cell? ⟨b,o' + off + j,none⟩=some u∧Rep X w φ u d:=fun j d hj=>by
   obtain ⟨g1,u,g2,g3⟩:=hcs _ d (hv.2 j d hj)
   exact ⟨g1,u,by rw [cell_of hh,Nat.add_assoc];exact g2,g3⟩
  obtain ⟨oldV,hoV⟩:∃ oldV:List Value,((List.range olds.length).map fun j=>(w.cell? ⟨b,o' + off + j,none⟩).getD undef)=oldV:=⟨_,rfl⟩
  have hoL:oldV.length=olds.length:=by rw [← hoV];simp
  have hos:∀ (j:Nat) d,olds[j]?=some d→d.one=true∧∃ u,oldV[j]?=some u∧Rep X w φ u d:=fun j d hj=>by
   obtain ⟨g1,u,g2,g3⟩:=holdsAt j d hj
   have hlt:j < olds.length:=(List.getElem?_eq_some_iff.1 hj).1
   exact ⟨g1,u,by rw [← hoV];simp [hlt,g2],g3⟩
  have hfc:(Builtin.firstCells i.size len (.slice (some ⟨b,o' + off,none⟩) len cap)).run P w.drew=.ok oldV.toArray w.drew:=by
   refine run_firstCells_some (P:=P) w.drew i.size len _ len cap _ (by rw [hoL,hv.1]) fun j u hu=>?_
   rw [Addr.add_lit]
   have hlt:j < olds.length:=by rw [← hoL];exact (List.getElem?_eq_some_iff.1 hu).1
   obtain ⟨_,u',g2,_⟩:=holdsAt j olds[j] (List.getElem?_eq_getElem hlt)
   rw [← hoV] at hu
   simp [hlt,g2] at hu
   show w.cell? _=_
   rw [g2,hu]
  have hrun:=run_append_grow_zeros (P:=P) w t tn o.type e i zz k kn (lay_sl ht) (lay_int htn) hi hz (some ⟨b,o' + off,none⟩) len cap oldV hfc n hn0 h0 (by omega) (by omega) (by
   have:n * i.bytes≤(len + n) * by':=by rw [hby];exact Nat.mul_le_mul_right _ (by omega)
   omega) (growslice_fits (by omega) (by rw [hby];exact hm))
  unfold OpW
  simp only [execOp,ho,resolve,invoke,Go.builtin,Sem.run_bind,Sem.run_pure,Result.andThen_ok,List.map_toArray,List.map_cons,List.map_nil,e1,e2,hrun]
  have hnA:Builtin.zeroCells zz.cells n=news.toArray:=by rw [← hnews]
  rw [hnA]
  have happ:oldV.toArray++news.toArray=(oldV++news).toArray:=by simp
  rw [happ]
  obtain ⟨h1,h2,h3,h4,h5⟩:=hst.fresh (w':=w.drew.alloc (.cells ((oldV++news).toArray++Builtin.zeroCells zz.cells (grownCap w (len + n) cap e - (len + n))) e)) (cs:=olds++zerosL n z') hf rfl rfl rfl rfl (fun j c hj=>by
   have hsz2:(oldV++news).toArray.size=oldV.length + news.length:=by simp
   rw [List.getElem?_append] at hj
   split at hj
   ·rename_i hlt
    obtain ⟨g1,u,g2,g3⟩:=hos j c hj
    exact ⟨g1,u,by rw [Array.getElem?_append,if_pos (by omega)];simp only [List.getElem?_toArray];rw [List.getElem?_append,if_pos (by omega)];exact g2,g3⟩
   ·rename_i hge
    obtain ⟨g1,u,g2,g3⟩:=hns _ c hj
    have hlt:j - olds.length < news.length:=(List.getElem?_eq_some_iff.1 g2).1
    exact ⟨g1,u,by rw [Array.getElem?_append,if_pos (by omega)];simp only [List.getElem?_toArray];rw [List.getElem?_append,if_neg (by omega),hoL];exact g2,g3⟩)
  exact ⟨_,_,h1.drop (hdrop _),h2.drop (hdrop _),new_row_rep (φ':=fun r=>if r=f then some (w.heap.size,0) else φ r) (X':=fun b=>X b∨b=w.heap.size) (sz:=i.size) h5 h4 (by simp [hnl,hoL,hv.1,Nat.add_mul]) hzs (grownCap_ge w (len + n) cap e)⟩
end
end Go.Proofs.YtbfnfgpjgdbmeaaGreatDoor
namespace Go.Proofs.YtbfnfgpjgdbmeaaGreatDoor
open Go.RowKit
section
variable {P:Program} {o:Oper} {E:Operand→Option AV} {H:Hp} {f:Nat} {t:TypeId} {size bytes:Nat} {zero:List AV} {x:Operand} {e sz by':Nat}
theorem LO.toArr {n len:Nat} {cs:List AV} {a:AV} (ho:o.op=.sliceToArrayPointer t x) (hx:E x=some a) (ha:a.isl?=some (cs,len)) (ht:TyOK P t (.arr n e) size bytes zero) (hn:0 < n) (hl:n≤len):LO P o E H f [] [] (.imm cs 0) H :=
 .pure fun X φ w ρ hR=>by
  obtain ⟨A,cap,e1,hc,hcase⟩:=(hR x (by simp [ho,Op.operands]) _ hx).isl_inv ha
  obtain ⟨_,h1⟩|⟨b,o',rfl,hb,hX,hcs⟩:=hcase
  ·omega
  ·refine ⟨.pointer (some ⟨b,o',none⟩),?_,?_⟩
   ·have hnl:¬ len < n:=by omega
    simp [execOp,ho,e1,Instr.arrayAt,run_underlying (lay_ar ht),hnl]
   ·have:=mk_imm (X:=X) (w:=w) (φ:=φ) (cs:=cs) 0 hb hX hcs
    exact this
end
section
variable {P:Program} {o:Oper} {E:Operand→Option AV} {H:Hp} {f:Nat} {v v':AV} {g:FuncId} {xs:Array Operand} {ts:Array TypeId} {args:List AV} {fr:List Nat}
theorem LO.callPT {q:Nat} {cs cs' ds:List AV} (ho:o.op=.call { callee:=.value (.func g),args:=xs,argTypes:=ts }) (hE:E (.func g)=some (.base (.func (.func g) #[] #[]))) (h:AFn P g 1 args (up mt 0 (some cs)) v (up (up mt 0 (some cs')) 1 (some ds))) (hF:FnOK P g)
 (hargs:Args E H fr (some q) xs.toList args) (hH:H q=some cs) (hp:cs.all AV.pure1=true) (hp':cs'.all AV.pure1=true) (hpd:ds.all AV.pure1=true) (h0:cs≠[]) (hqf:q ∉ fr) (hff2:f ∉ fr) (hqn:q≠f) (hv:∀ (X:Nat→Prop) (w:World) (φ φ2:Em) (x:Value),Rep X w φ x v→φ2 f=φ 1→Rep X w φ2 x v') :
 LO P o E H f [] (f::q::fr) v' (up (up (frK H fr) q (some cs')) f (some ds)):=by
 refine ⟨fun r hr=>by simp at hr;rw [up_ne hr.1,up_ne hr.2.1];exact if_neg hr.2.2,fun E' K hE' hK X φ w ρ hR hst hff=>?_⟩
 have hKf:∀ r,r∈fr→K r=H r:=fun r hr=>hK r (.inr (by simp [hr]))
 have hKq:K q=some cs:=(hK q (.inr (by simp))).trans hH
 have hov:ovr K (f::q::fr) (up (up (frK H fr) q (some cs')) f (some ds))=up (up (frK K fr) q (some cs')) f (some ds):=by
  funext r
  unfold ovr
  by_cases h1:r=f
  ·subst h1;simp [up_at]
  ·rw [up_ne h1,up_ne h1]
   by_cases h2:r=q
   ·subst h2;simp [up_at]
   ·rw [up_ne h2,up_ne h2]
    unfold frK
    by_cases h3:r∈fr<;>simp [h1,h2,h3]
 rw [hov]
 obtain ⟨fn,hf,hname,hb⟩:=hF
 have hops:o.op.operands=#[.func g]++xs:=by rw [ho];rfl
 have hρ:ρ (.func g)=.func (.func g) #[] #[]:=(hR (.func g) _ ((hE' _ (by rw [hops];simp)).trans hE)).base_eq
 unfold OpW
 rw [run_call ho hρ hf hname hb]
 let φc:Em:=fun i=>if i=0 then φ q else none
 obtain ⟨g1,g2⟩:=hargs.rep (K:=K) (X:=X) (φ:=φ) (φ':=φc) (w:=w) (ρ:=ρ) hKf hst (fun x hx a ha=>hR x a ((hE' x (by rw [hops];simp;exact .inr (by simpa using hx))).trans ha)) (fun q' h=>by injection h with h;subst h;exact if_pos rfl)
 have hst1:=hst.frz (fr:=fr)
 have hKq1:frK K fr q=some cs:=by unfold frK;rw [if_neg hqf];exact hKq
 obtain ⟨b0,o0,hq1,hq2,hq3⟩:∃ b o,φ q=some (b,o)∧frX X K φ fr b∧Blk (frX X K φ fr) φ w b o cs:=by
  rcases hst1.1 q cs hKq1 with ⟨h1,_⟩|h1
  ·exact absurd h1 h0
  ·exact h1
 have hc1:∀ r cs1,(up mt 0 (some cs):Hp) r=some cs1→r=0∧cs1=cs:=by
  intro r cs1 hr
  by_cases h1:r=0
  ·subst h1;rw [up_at] at hr;injection hr with hr;exact ⟨rfl,hr.symm⟩
  ·rw [up_ne h1] at hr;cases hr
 have hstc:St (frX X K φ fr) φc (up mt 0 (some cs)) w:=by
  refine ⟨fun r cs1 hr=>?_,fun r r' c c' b o o' i1 i2 _ _=>by rw [(hc1 r c i1).1,(hc1 r' c' i2).1],hst1.gl⟩
  obtain ⟨rfl,rfl⟩:=hc1 r cs1 hr
  exact .inr ⟨b0,o0,by show (if 0=0 then φ q else none)=_;rw [if_pos rfl];exact hq1,hq2,hq3.keepP rfl fun v a ha h=>h.pure1 (List.all_eq_true.1 hp a ha)⟩
 refine (h (frX X K φ fr) φc w (xs.map ρ) (by simp;simpa using g1) (fun i x a hx ha=>g2 i x a (by simpa using hx) ha) hstc (fun r hr=>if_neg (by omega))).mono ?_
 rintro e w' ⟨x,X',φ',rfl,h1,h2,h3⟩
 have hφ0:φ' 0=some (b0,o0):=by rw [h1.ph 0 (by omega)];show (if 0=0 then φ q else none)=_;rw [if_pos rfl];exact hq1
 have hH0:(up (up mt 0 (some cs')) 1 (some ds):Hp) 0=some cs':=by rw [up_ne (by decide),up_at]
 have hH1:(up (up mt 0 (some cs')) 1 (some ds):Hp) 1=some ds:=up_at _ _ _
 have hkeep:∀ v a,Rep (frX X K φ fr) w φ v a→Rep X' w' φ v a:=fun v a hr=>hr.keep h1.size (fun b hb hx=>h1.same b hb fun r cs1 o i1 i2=>by
  obtain ⟨rfl,rfl⟩:=hc1 r cs1 i1
  have:φ q=some (b,o):=i2
  rw [hq1] at this
  injection this with this
  injection this with this _
  subst this
  exact hx hq2) h1.bs h1.xs (fun _ _ h=>h)
 have hne:∀ r c b o,r≠q→frK K fr r=some c→φ r=some (b,o)→b≠b0:=fun r c b o i1 i2 i3 i4=>i1 (hst1.2 r q c cs b o o0 i2 hKq1 i3 (by rw [hq1,i4]))
 have hbn:∀ b o',φ' 1=some (b,o')→w.heap.size≤b:=fun b o' hp0=>by
  rcases h1.lv 1 ds b o' hH1 hp0 with h4|⟨r,cs1,o1,h4,h5⟩
  ·exact h4
  ·obtain ⟨rfl,rfl⟩:=hc1 r cs1 h4
   have:φ q=some (b,o1):=h5
   rw [hq1] at this
   injection this with this
   injection this with this _
   subst this
   exact absurd (h2.2 0 1 cs' ds b0 o0 o' hH0 hH1 hφ0 hp0) (by decide)
 let φ2:Em:=fun r=>if r=f then φ' 1 else φ r
 have hφf:φ2 f=φ' 1:=if_pos rfl
 have hφn:∀ r,r≠f→φ2 r=φ r:=fun r h=>if_neg h
 have hφe:∀ r y,φ r=some y→φ2 r=some y:=fun r y h=>by
  rw [hφn r (fun e=>by rw [e,hff] at h;cases h)];exact h
 have hkeep2:∀ v a,Rep X' w' φ v a→Rep X' w' φ2 v a:=fun v a h=>h.keep (Nat.le_refl _) (fun _ _ _=>rfl) (fun _ _=>rfl) (fun _ _ h=>h) hφe
 have hold:∀ r c,r≠f→up (up (frK K fr) q (some cs')) f (some ds) r=some c→(r=q∧c=cs')∨(r≠q∧frK K fr r=some c):=fun r c hr h=>by
  rw [up_ne hr] at h
  by_cases e:r=q
  ·subst e;rw [up_at] at h;injection h with h;exact .inl ⟨rfl,h.symm⟩
  ·rw [up_ne e] at h;exact .inr ⟨e,h⟩
 have hlt:∀ r c o2 b2,frK K fr r=some c→φ r=some (b2,o2)→b2 < w.heap.size:=by
  intro r c o2 b2 i1 i2
  obtain ⟨_,i3⟩|⟨b3,o3,i3,_,i4⟩:=hst1.1 r c i1
  ·rw [i3] at i2;cases i2
  ·rw [i3] at i2;injection i2 with i2;injection i2 with i2 _;subst i2;exact i4.lt
 have hold2:∀ r c,r≠f→up (up (frK K fr) q (some cs')) f (some ds) r=some c→∃ c2,frK K fr r=some c2:=fun r c hr h=>by
  rcases hold r c hr h with ⟨rfl,_⟩|⟨_,h⟩
  ·exact ⟨cs,hKq1⟩
  ·exact ⟨c,h⟩
 refine ⟨x,rfl,X',φ2,?_,⟨fun r cs1 hr=>?_,fun r1 r2 c1 c2 b1 o1 o2 i1 i2 i3 i4=>?_,h2.gl⟩,hv _ _ _ _ _ h3 hφf⟩
 ·refine (Nxt.frz (fr:=fr)).trans ⟨h1.os,h1.tape,h1.output,h1.size,fun b hb hn=>h1.same b hb (fun r cs1 o i1 i2=>?_),h1.bs,h1.xs,fun b hb hx=>?_,fun r hr=>hφn r hr,fun r cs1 b1 o1 i1 i2=>?_⟩ fun _ h=>h
  ·obtain ⟨rfl,rfl⟩:=hc1 r cs1 i1
   exact hn q _ o hKq1 i2
  ·rcases h1.xk b hb hx with i1|⟨r,cs1,o,i1,i2⟩
   ·exact .inl i1
   ·obtain ⟨rfl,rfl⟩:=hc1 r cs1 i1
    exact .inr ⟨q,_,o,hKq1,i2⟩
  ·by_cases hr:r=f
   ·subst hr
    rw [hφf] at i2
    exact .inl (hbn b1 o1 i2)
   ·obtain ⟨c2,j2⟩:=hold2 r cs1 hr i1
    rw [hφn r hr] at i2
    exact .inr ⟨r,c2,o1,j2,i2⟩
 ·by_cases hrf:r=f
  ·subst hrf
   rw [up_at] at hr
   injection hr with hr
   subst hr
   obtain ⟨h4,h5⟩|⟨b1,o1,h4,h5,h6⟩:=h2.1 1 ds hH1
   ·exact .inl ⟨h4,by rw [hφf];exact h5⟩
   ·exact .inr ⟨b1,o1,by rw [hφf];exact h4,h5,h6.keepP rfl fun v a ha h=>h.pure1 (List.all_eq_true.1 hpd a ha)⟩
  ·rcases hold r cs1 hrf hr with ⟨hrq,hcc⟩|⟨hrq,hr⟩
   ·subst hrq hcc
    obtain ⟨i1,i2⟩|⟨b1,o1,i1,i2,i3⟩:=h2.1 0 cs1 hH0
    ·rw [hφ0] at i2;cases i2
    ·rw [hφ0] at i1
     injection i1 with i1
     injection i1 with e1 e2
     subst e1 e2
     exact .inr ⟨b0,o0,by rw [hφn r hrf];exact hq1,i2,i3.keepP rfl fun v a ha h=>h.pure1 (List.all_eq_true.1 hp' a ha)⟩
   ·obtain ⟨i1,i2⟩|⟨b1,o1,i1,i2,i3⟩:=hst1.1 r cs1 hr
    ·exact .inl ⟨i1,by rw [hφn r hrf];exact i2⟩
    ·have hbne:=hne r cs1 b1 o1 hrq hr i1
     have hown:∀ r' cs2 o2,(up mt 0 (some cs):Hp) r'=some cs2→φc r'≠some (b1,o2):=fun r' cs2 o2 k1 k2=>by
      obtain ⟨rfl,rfl⟩:=hc1 r' cs2 k1
      have:φ q=some (b1,o2):=k2
      rw [hq1] at this
      injection this with this
      injection this with this _
      exact hbne this.symm
     refine .inr ⟨b1,o1,by rw [hφn r hrf];exact i1,?_,i3.keep (h1.same b1 i3.lt hown) fun v a h=>hkeep2 _ _ (hkeep _ _ h)⟩
     rcases h1.xk b1 i3.lt i2 with k1|⟨r',cs2,o2,k1,k2⟩
     ·exact k1
     ·exact absurd k2 (hown r' cs2 o2 k1)
 ·by_cases hr1:r1=f
  ·by_cases hr2:r2=f
   ·rw [hr1,hr2]
   ·exfalso
    obtain ⟨c3,k2⟩:=hold2 r2 c2 hr2 i2
    rw [hφn r2 hr2] at i4
    rw [hr1,hφf] at i3
    have hl:=hlt r2 c3 o2 b1 k2 i4
    have:=hbn b1 o1 i3
    omega
  ·obtain ⟨c3,k2⟩:=hold2 r1 c1 hr1 i1
   rw [hφn r1 hr1] at i3
   by_cases hr2:r2=f
   ·exfalso
    rw [hr2,hφf] at i4
    have hl:=hlt r1 c3 o1 b1 k2 i3
    have:=hbn b1 o2 i4
    omega
   ·obtain ⟨c4,k4⟩:=hold2 r2 c2 hr2 i2
    rw [hφn r2 hr2] at i4
    exact hst1.2 r1 r2 c3 c4 b1 o1 o2 k2 k4 i3 i4
theorem LO.callP {q n sz:Nat} {cs cs' ds:List AV} (ho:o.op=.call { callee:=.value (.func g),args:=xs,argTypes:=ts }) (hE:E (.func g)=some (.base (.func (.func g) #[] #[]))) (h:AFn P g 1 args (up mt 0 (some cs)) (.osl 1 0 n sz) (up (up mt 0 (some cs')) 1 (some ds))) (hF:FnOK P g)
 (hargs:Args E H fr (some q) xs.toList args) (hH:H q=some cs) (hp:cs.all AV.pure1=true) (hp':cs'.all AV.pure1=true) (hpd:ds.all AV.pure1=true) (h0:cs≠[]) (hqf:q ∉ fr) (hff2:f ∉ fr) (hqn:q≠f):LO P o E H f [] (f::q::fr) (.osl f 0 n sz) (up (up (frK H fr) q (some cs')) f (some ds)) :=
 .callPT ho hE h hF hargs hH hp hp' hpd h0 hqf hff2 hqn fun _ _ _ _ _ hr e=>osl_move hr e
end
def setG (g:Nat) (a:AV) (E:Operand→Option AV):Operand→Option AV
 | .global h=>match Nat.beq g h with
  | true=>some a
  | false=>E (.global h)
 | x=>E x
theorem Glob.imm {X:Nat→Prop} {w:World} {φ:Em} {g:Nat} {vs:List Value} (h:Glob X w) (hg:gRaw g=some vs) (h1:(vs.map AV.base).all AV.one=true):Rep X w φ (.pointer (some ⟨g,0,none⟩)) (.imm (vs.map AV.base) 0):=by
 obtain ⟨k1,k2,k3⟩:=h.1 g vs hg
 have:=Rep.imm (X:=X) (w:=w) (φ:=φ) (vs.map AV.base) 0 g 0 (fun i=>vs.getD i undef) k1 k2 (fun i c hi=>List.all_eq_true.1 h1 c (List.mem_of_getElem? hi)) (fun i c hi=>by
  rw [List.getElem?_map] at hi
  obtain ⟨v,hv,rfl⟩:=Option.map_eq_some_iff.1 hi
  rw [Nat.zero_add,k3 i v hv]
  simp [List.getD,hv]) (fun i c hi=>by
  rw [List.getElem?_map] at hi
  obtain ⟨v,hv,rfl⟩:=Option.map_eq_some_iff.1 hi
  have e:vs.getD i undef=v:=by simp [List.getD,hv]
  rw [e]
  exact .base v)
 exact this
section
variable {P:Program} {o:Oper} {E:Operand→Option AV} {H H':Hp} {f:Nat} {rd wr:List Nat} {v:AV}
theorem LO.glob (g:Nat) {vs:List Value} (hg:gRaw g=some vs) (h1:(vs.map AV.base).all AV.one=true) (hE:E (.global g)=some (.base (.pointer (some ⟨g,0,none⟩)))) (h:LO P o (setG g (.imm (vs.map AV.base) 0) E) H f rd wr v H'):LO P o E H f rd wr v H':=by
 refine ⟨h.1,fun E' K hE' hK X φ w ρ hR hst hf=>?_⟩
 by_cases hm:Operand.global g∈o.op.operands
 ·refine h.2 (setG g (.imm (vs.map AV.base) 0) E') K (fun x hx=>?_) hK X φ w ρ (fun x a hx=>?_) hst hf
  ·cases x with
   | global k =>
    unfold setG
    dsimp only
    split
    ·rfl
    ·exact hE' _ hx
   | _=>exact hE' _ hx
  ·cases x with
   | global k =>
    unfold setG at hx
    dsimp only at hx
    split at hx
    ·rename_i hb
     have:=Nat.eq_of_beq_eq_true hb
     subst this
     injection hx with hx
     subst hx
     have hv:=(hR (.global g) _ ((hE' _ hm).trans hE)).base_eq
     rw [hv]
     exact hst.gl.imm hg h1
    ·exact hR _ _ hx
   | _=>exact hR _ _ hx
 ·refine h.2 E' K (fun x hx=>?_) hK X φ w ρ hR hst hf
  rw [hE' x hx]
  cases x with
  | global k =>
   unfold setG
   dsimp only
   split
   ·rename_i hb
    have:=Nat.eq_of_beq_eq_true hb
    subst this
    exact absurd hx hm
   ·rfl
  | _=>rfl
end
structure MKey (P:Program) (k:TypeId) (kd:Value→Prop):Prop where
 check:∀ (w:World) (em:Bool) v,kd v→(Instr.checkKey em 10000 k v).run P w=.ok () w
 find:∀ (w:World) x,kd x→∀ es:List MapEntry,(∀ e,e∈es→kd e.key)→((Instr.findKey k x es).run P w=.ok none w∧∀ e,e∈es→e.key≠x)∨∃ j e,(Instr.findKey k x es).run P w=.ok (some (j,e.val)) w∧es[j]?=some e∧e.key=x
 stays:∀ (w:World) v,kd v→(Instr.keyThatStays v v).run P w=.ok v w
def kdOf (P:Program) (k:TypeId):Value→Prop:=fun v=>∃ l,keyOf P k v=some l
theorem MKey.of {P:Program} {k:TypeId} (K:Go.Maps.Keyed P k):MKey P k (kdOf P k) :=
 ⟨fun w em _ ⟨_,h⟩=>K.check w em h,fun w _ ⟨_,h⟩ es hes=>K.find w h es hes,fun w _ ⟨_,h⟩=>K.stays w h⟩
def KV (a:AV) (key:Value):Prop:=∀ (X:Nat→Prop) (w:World) (φ:Em) (x:Value),Rep X w φ x a→x=key
theorem KV.base (v:Value):KV (.base v) v:=fun _ _ _ _ h=>h.base_eq
theorem KV.agg (vs:List Value):KV (.agg (vs.map .base)) (.agg vs.toArray):=fun X w φ x h=>by
 cases h with
 | agg us _ hl h1 hh =>
  congr 1
  apply Array.ext
  ·simpa using hl
  ·intro i h1 h2
   have:=hh i us[i] (.base vs[i]) (by simp) (by simp)
   simpa using this.base_eq
section
variable {kd:Value→Prop} {m m':Value→Option Value} {es:Array MapEntry} {x u:Value}
theorem MOk.empty:MOk kd (fun _=>none) #[]:=⟨fun i e h=>by simp at h,fun i j e e' h=>by simp at h,fun x u _=>⟨fun h=>(by cases h),fun ⟨i,e,h,_⟩=>(by simp at h)⟩⟩
theorem MOk.push {born:Nat} (h:MOk kd m es) (hx:kd x) (hn:∀ (i:Nat) e,es[i]?=some e→e.key≠x) (h1:m' x=some u) (h2:∀ y,kd y→y≠x→m' y=m y):MOk kd m' (es.push { key:=x,val:=u,born:=born }):=by
 have hg:∀ (i:Nat) (e:MapEntry),(es.push { key:=x,val:=u,born:=born })[i]?=some e→(i < es.size∧es[i]?=some e)∨(i=es.size∧e={ key:=x,val:=u,born:=born }):=fun i e hi=>by
  rw [Array.getElem?_push] at hi
  split at hi
  ·rename_i hq;injection hi with hi;exact .inr ⟨hq,hi.symm⟩
  ·refine .inl ⟨?_,hi⟩
   exact (Array.getElem?_eq_some_iff.1 hi).1
 refine ⟨fun i e hi=>?_,fun i j e e' hi hj he=>?_,fun y v hy=>⟨fun hv=>?_,fun ⟨i,e,hi,hk,hv⟩=>?_⟩⟩
 ·rcases hg i e hi with ⟨_,h3⟩|⟨_,rfl⟩
  ·exact h.keys i e h3
  ·exact hx
 ·rcases hg i e hi with ⟨_,h3⟩|⟨e1,rfl⟩<;>rcases hg j e' hj with ⟨_,h4⟩|⟨e2,rfl⟩
  ·exact h.dist i j e e' h3 h4 he
  ·exact absurd he (hn i e h3)
  ·exact absurd he.symm (hn j e' h4)
  ·rw [e1,e2]
 ·by_cases hyx:y=x
  ·subst hyx
   rw [h1] at hv
   injection hv with hv
   exact ⟨es.size,{ key:=y,val:=u,born:=born },by simp,rfl,hv⟩
  ·rw [h2 y hy hyx] at hv
   obtain ⟨i,e,hi,hk,hv⟩:=(h.val y v hy).1 hv
   refine ⟨i,e,?_,hk,hv⟩
   rw [Array.getElem?_push,if_neg (by have:=(Array.getElem?_eq_some_iff.1 hi).1;omega)]
   exact hi
 ·rcases hg i e hi with ⟨_,h3⟩|⟨_,rfl⟩
  ·have:y≠x:=fun e0=>hn i e h3 (by rw [hk,e0])
   rw [h2 y hy this]
   exact (h.val y v hy).2 ⟨i,e,h3,hk,hv⟩
  ·subst hk hv;exact h1
theorem MOk.modify {j:Nat} {e0:MapEntry} (h:MOk kd m es) (hx:kd x) (hj:es[j]?=some e0) (hk0:e0.key=x) (h1:m' x=some u) (h2:∀ y,kd y→y≠x→m' y=m y):MOk kd m' (es.modify j fun e=>{ e with key:=x,val:=u }):=by
 have hg:∀ (i:Nat) (e:MapEntry),(es.modify j fun e=>{ e with key:=x,val:=u })[i]?=some e→(i≠j∧es[i]?=some e)∨(i=j∧e={ e0 with key:=x,val:=u }):=fun i e hi=>by
  rw [Array.getElem?_modify] at hi
  split at hi
  ·rename_i hq
   subst hq
   rw [hj] at hi
   injection hi with hi
   exact .inr ⟨rfl,hi.symm⟩
  ·exact .inl ⟨by omega,hi⟩
 refine ⟨fun i e hi=>?_,fun i i' e e' hi hj' he=>?_,fun y v hy=>⟨fun hv=>?_,fun ⟨i,e,hi,hk,hv⟩=>?_⟩⟩
 ·rcases hg i e hi with ⟨_,h3⟩|⟨_,rfl⟩
  ·exact h.keys i e h3
  ·exact hx
 ·rcases hg i e hi with ⟨n1,h3⟩|⟨e1,rfl⟩<;>rcases hg i' e' hj' with ⟨n2,h4⟩|⟨e2,rfl⟩
  ·exact h.dist i i' e e' h3 h4 he
  ·exact absurd (h.dist i j e e0 h3 hj (he.trans hk0.symm)) n1
  ·exact absurd (h.dist i' j e' e0 h4 hj (he.symm.trans hk0.symm)) n2
  ·rw [e1,e2]
 ·by_cases hyx:y=x
  ·subst hyx
   rw [h1] at hv
   injection hv with hv
   exact ⟨j,{ e0 with key:=y,val:=u },by rw [Array.getElem?_modify,if_pos rfl,hj];rfl,rfl,hv⟩
  ·rw [h2 y hy hyx] at hv
   obtain ⟨i,e,hi,hk,hv⟩:=(h.val y v hy).1 hv
   refine ⟨i,e,?_,hk,hv⟩
   rw [Array.getElem?_modify,if_neg (fun e1=>by subst e1;rw [hj] at hi;injection hi with hi;subst hi;exact hyx (hk.symm.trans hk0))]
   exact hi
 ·rcases hg i e hi with ⟨n1,h3⟩|⟨_,rfl⟩
  ·have:y≠x:=fun e1=>n1 (h.dist i j e e0 h3 hj (by rw [hk,hk0,e1]))
   rw [h2 y hy this]
   exact (h.val y v hy).2 ⟨i,e,h3,hk,hv⟩
  ·subst hk hv;exact h1
end
section
variable {P:Program} {o:Oper} {E:Operand→Option AV} {H:Hp} {f:Nat} {a:AV} {t:TypeId} {kt et size bytes r:Nat} {zero:List AV} {x y z:Operand} {kd:Value→Prop} {m m':Value→Option Value} {key u v:Value}
theorem lay_map (ht:TyOK P t (.map kt et) size bytes zero):P.underlying t=some (.map kt et):=by
 obtain ⟨d,inf,z,h1,h2,_⟩:=ht.spec
 cases d<;>simp only [layOf] at h2<;>try (cases h2;done)
 injection h2 with h2 h3
 rw [h1,h2,h3]
theorem Rep.mref_inv {X:Nat→Prop} {φ:Em} {w:World} {v:Value} (h:Rep X w φ v (.mref r)):∃ b o,φ r=some (b,o)∧v=.map (some b):=by
 cases h with
 | mref _ b o hp=>exact ⟨b,o,hp,rfl⟩
theorem mlook {w:World} {b:Nat} {es:Array MapEntry} {clock:Nat} (ht:P.underlying t=some (.map kt et)) (hk:MKey P kt kd) (hkd:kd key) (hb:w.heap[b]?=some (.map es clock)) (hm:MOk kd m es) (ok:Bool) (hz:∀ w,(Go.zeroValue et).run P w=.ok u w) :
 (Instr.lookup t (.map (some b)) key ok).run P w=.ok (if ok then .tuple #[(m key).getD u,.bool (m key).isSome] else (m key).getD u) w:=by
 have hg:=MapKept.run_getObj_map (P:=P) hb
 have hkeys:∀ e,e∈es.toList→kd e.key:=fun e he=>by
  obtain ⟨i,hi⟩:=List.getElem?_of_mem he
  exact hm.keys i e (by simpa using hi)
 rcases hk.find w key hkd es.toList hkeys with ⟨h1,h2⟩|⟨j,e,h1,h2,h3⟩
 ·have hn:m key=none:=by
   cases hmk:m key with
   | none=>rfl
   | some v =>
    obtain ⟨i,e,hi,hk',_⟩:=(hm.val key v hkd).1 hmk
    exact absurd hk' (h2 e (List.mem_of_getElem? (by simpa using hi)))
  simp [Instr.lookup,run_underlying ht,hg,hk.check w _ key hkd,h1,hz,hn]
 ·have hs:m key=some e.val:=(hm.val key e.val hkd).2 ⟨j,e,by simpa using h2,h3,rfl⟩
  simp [Instr.lookup,run_underlying ht,hg,hk.check w _ key hkd,h1,hs]
theorem zero_of (h:(P.info? t).bind (·.zero)=some u):∀ w,(Go.zeroValue t).run P w=.ok u w:=by
 intro w
 cases hi:P.info? t with
 | none=>rw [hi] at h;cases h
 | some inf =>
  rw [hi] at h
  simp only [Option.bind_some] at h
  simp [Go.zeroValue,typeInfo,hi,h]
end
theorem mk_str {P:Program} {t:TypeId} (hq:P.underlying t=some .string):MKey P t (kdOf P t):=.of (Go.Maps.string_keyed hq)
theorem mk_int {P:Program} {t:TypeId} {q:IntKind} (hq:P.underlying t=some (.int q)):MKey P t (kdOf P t):=.of (Go.Maps.int_keyed hq)
theorem mk_agg {P:Program} (hl:laidOutB P=true) {t:TypeId} (hrow:t < P.types.size) (hk:P.keyTypeAt 10 t=true) (hwide:(match P.underlying t with|some (.array _ _)|some (.struct _)=>true|_=>false)=true):MKey P t (kdOf P t) :=
 .of (.of_law (deep_law_laid hl (m:=10) (by decide) hrow hk hwide))
theorem nodupIx {qs:List Nat} (hn:qs.Nodup) {i j q:Nat} (h1:qs[i]?=some q) (h2:qs[j]?=some q):i=j:=by
 induction qs generalizing i j with
 | nil=>simp at h1
 | cons k ks ih =>
  rw [List.nodup_cons] at hn
  cases i with
  | zero =>
   cases j with
   | zero=>rfl
   | succ j=>simp at h1 h2;subst h1;exact absurd (List.mem_of_getElem? h2) hn.1
  | succ i =>
   cases j with
   | zero=>simp at h1 h2;subst h2;exact absurd (List.mem_of_getElem? h1) hn.1
   | succ j=>have:i=j:=ih hn.2 (by simpa using h1) (by simpa using h2);omega
inductive ArgsM (E:Operand→Option AV) (H:Hp) (fr:List Nat) (qs:List Nat):List Operand→List AV→Prop
 | nil:ArgsM E H fr qs [] []
 | cons {x:Operand} {xs:List Operand} {a b:AV} {bs:List AV} (hx:E x=some a) (h:Fz H fr a b) (hs:ArgsM E H fr qs xs bs):ArgsM E H fr qs (x::xs) (b::bs)
 | own {x:Operand} {xs:List Operand} {bs:List AV} (i:Nat) {q off:Nat} (hr:qs[i]?=some q) (hx:E x=some (.own q off)) (hs:ArgsM E H fr qs xs bs):ArgsM E H fr qs (x::xs) (.own i off::bs)
 | osl {x:Operand} {xs:List Operand} {bs:List AV} (i:Nat) {q off len sz:Nat} (hr:qs[i]?=some q) (hx:E x=some (.osl q off len sz)) (hs:ArgsM E H fr qs xs bs):ArgsM E H fr qs (x::xs) (.osl i off len sz::bs)
theorem ArgsM.rep {E:Operand→Option AV} {H K:Hp} {fr qs:List Nat} {X:Nat→Prop} {φ φ':Em} {w:World} {ρ:Operand→Value} {xs:List Operand} {bs:List AV} (h:ArgsM E H fr qs xs bs) (hK:∀ r,r∈fr→K r=H r) (hst:St X φ K w)
 (hR:∀ x,x∈xs→∀ a,E x=some a→Rep X w φ (ρ x) a) (hφ:∀ i q,qs[i]?=some q→φ' i=φ q):xs.length=bs.length∧∀ (i:Nat) x b,(xs.map ρ)[i]?=some x→bs[i]?=some b→Rep (frX X K φ fr) w φ' x b:=by
 induction h with
 | nil=>exact ⟨rfl,fun i x b h=>by simp at h⟩
 | cons hx h _ ih =>
  obtain ⟨g1,g2⟩:=ih fun y hy=>hR y (by simp [hy])
  refine ⟨by simp [g1],fun i y b hy hb=>?_⟩
  cases i with
  | zero =>
   simp at hy hb
   subst hy hb
   exact (h.congr hK).rep hst (hR _ (by simp) _ hx)
  | succ i=>exact g2 i y b (by simpa using hy) (by simpa using hb)
 | own j hr hx _ ih =>
  obtain ⟨g1,g2⟩:=ih fun y hy=>hR y (by simp [hy])
  refine ⟨by simp [g1],fun i y b hy hb=>?_⟩
  cases i with
  | zero =>
   simp at hy hb
   subst hy hb
   obtain ⟨b',o',hp,e,hbs0⟩:=(hR _ (by simp) _ hx).own_inv
   rw [e]
   exact .own j _ b' o' (by rw [hφ _ _ hr];exact hp) hbs0
  | succ i=>exact g2 i y b (by simpa using hy) (by simpa using hb)
 | osl j hr hx _ ih =>
  obtain ⟨g1,g2⟩:=ih fun y hy=>hR y (by simp [hy])
  refine ⟨by simp [g1],fun i y b hy hb=>?_⟩
  cases i with
  | zero =>
   simp at hy hb
   subst hy hb
   obtain ⟨A,cap,e,hc,hcase⟩:=(hR _ (by simp) _ hx).osl_inv
   rw [e]
   rcases hcase with ⟨h1,h2⟩|⟨b',o',hp,hA,hs⟩
   ·subst h1 h2;exact .osl0 _ _ _ _
   ·subst hA;exact .osl j _ _ _ b' o' cap (by rw [hφ _ _ hr];exact hp) hc hs
  | succ i=>exact g2 i y b (by simpa using hy) (by simpa using hb)
section
variable {P:Program} {o:Oper} {E:Operand→Option AV} {H:Hp} {f:Nat} {v:AV} {g:FuncId} {xs:Array Operand} {ts:Array TypeId} {args:List AV} {fr:List Nat}
theorem LO.callM {qs:List Nat} {Hc Hc' H2:Hp} (ho:o.op=.call { callee:=.value (.func g),args:=xs,argTypes:=ts }) (hE:E (.func g)=some (.base (.func (.func g) #[] #[]))) (h:AFn P g qs.length args Hc v Hc') (hF:FnOK P g)
 (hargs:ArgsM E H fr qs xs.toList args) (hnd:qs.Nodup) (hqf:∀ q,q∈qs→q ∉ fr)
 (hin:∀ i cs,Hc i=some cs→∃ q,qs[i]?=some q∧H q=some cs∧cs.all AV.pure1=true∧cs≠[]) (hall:∀ i q,qs[i]?=some q→∃ cs,Hc i=some cs)
 (hout:∀ i cs,Hc' i=some cs→i < qs.length∧cs.all AV.pure1=true) (ha:∀ i q,qs[i]?=some q→H2 q=Hc' i) (hb:∀ r,r ∉ qs→H2 r=frK H fr r) (hv:v.pure=true):LO P o E H f [] (qs++fr) v H2:=by
 refine ⟨fun r hr=>by simp at hr;rw [hb r hr.1];exact if_neg hr.2,fun E' K hE' hK X φ w ρ hR hst hff=>?_⟩
 have hKf:∀ r,r∈fr→K r=H r:=fun r hr=>hK r (.inr (by simp [hr]))
 have hKq:∀ q,q∈qs→K q=H q:=fun q hq=>hK q (.inr (by simp [hq]))
 have hov:∀ r,ovr K (qs++fr) H2 r=if r∈qs then H2 r else frK K fr r:=by
  intro r
  unfold ovr
  by_cases h1:r∈qs
  ·simp [h1]
  ·simp only [List.mem_append,h1,false_or,if_false]
   unfold frK
   by_cases h2:r∈fr
   ·simp only [h2,if_true];rw [hb r h1];unfold frK;rw [if_pos h2]
   ·simp [h2]
 obtain ⟨fn,hf,hname,hbd⟩:=hF
 have hops:o.op.operands=#[.func g]++xs:=by rw [ho];rfl
 have hρ:ρ (.func g)=.func (.func g) #[] #[]:=(hR (.func g) _ ((hE' _ (by rw [hops];simp)).trans hE)).base_eq
 unfold OpW
 rw [run_call ho hρ hf hname hbd]
 let φc:Em:=fun i=>(qs[i]?).bind φ
 have hφc:∀ i q,qs[i]?=some q→φc i=φ q:=fun i q hq=>by show (qs[i]?).bind φ=_;rw [hq];rfl
 obtain ⟨g1,g2⟩:=hargs.rep (K:=K) (X:=X) (φ:=φ) (φ':=φc) (w:=w) (ρ:=ρ) hKf hst (fun x hx a ha=>hR x a ((hE' x (by rw [hops];simp;exact .inr (by simpa using hx))).trans ha)) hφc
 have hst1:=hst.frz (fr:=fr)
 have hKq1:∀ i q cs,qs[i]?=some q→Hc i=some cs→frK K fr q=some cs:=fun i q cs hq hc=>by
  have hm:=List.mem_of_getElem? hq
  unfold frK
  rw [if_neg (hqf q hm),hKq q hm]
  obtain ⟨q',k1,k2,_⟩:=hin i cs hc
  rw [hq] at k1
  injection k1 with k1
  subst k1
  exact k2
 have hblk:∀ i q cs,qs[i]?=some q→Hc i=some cs→∃ b o,φ q=some (b,o)∧frX X K φ fr b∧Blk (frX X K φ fr) φ w b o cs:=fun i q cs hq hc=>by
  rcases hst1.1 q cs (hKq1 i q cs hq hc) with ⟨h1,_⟩|h1
  ·obtain ⟨_,_,_,_,k⟩:=hin i cs hc;exact absurd h1 k
  ·exact h1
 have hstc:St (frX X K φ fr) φc Hc w:=by
  refine ⟨fun i cs hc=>?_,fun i j c c' b o o' i1 i2 i3 i4=>?_,hst1.gl⟩
  ·obtain ⟨q,k1,k2,k3,k4⟩:=hin i cs hc
   obtain ⟨b,o,j1,j2,j3⟩:=hblk i q cs k1 hc
   exact .inr ⟨b,o,(hφc i q k1).trans j1,j2,j3.keepP rfl fun v a ha h=>h.pure1 (List.all_eq_true.1 k3 a ha)⟩
  ·obtain ⟨q,k1,_⟩:=hin i c i1
   obtain ⟨q',k2,_⟩:=hin j c' i2
   rw [hφc i q k1] at i3
   rw [hφc j q' k2] at i4
   have:=hst1.2 q q' c c' b o o' (hKq1 i q c k1 i1) (hKq1 j q' c' k2 i2) i3 i4
   subst this
   exact nodupIx hnd k1 k2
 refine (h (frX X K φ fr) φc w (xs.map ρ) (by simp;simpa using g1) (fun i x a hx ha=>g2 i x a (by simpa using hx) ha) hstc (fun r hr=>by show (qs[r]?).bind φ=none;rw [List.getElem?_eq_none hr];rfl)).mono ?_
 rintro e w' ⟨x,X',φ',rfl,h1,h2,h3⟩
 have hφ0:∀ i q,qs[i]?=some q→φ' i=φ q:=fun i q hq=>by rw [h1.ph i (by have:=(List.getElem?_eq_some_iff.1 hq).1;omega)];exact hφc i q hq
 have hcown:∀ i cs b o,Hc i=some cs→φc i=some (b,o)→∃ q,qs[i]?=some q∧frK K fr q=some cs∧φ q=some (b,o):=fun i cs b o hc hp=>by
  obtain ⟨q,k1,_⟩:=hin i cs hc
  exact ⟨q,k1,hKq1 i q cs k1 hc,by rw [← hφc i q k1];exact hp⟩
 have hkeep:∀ v a,Rep (frX X K φ fr) w φ v a→Rep X' w' φ v a:=fun v a hr=>hr.keep h1.size (fun b hb hx=>h1.same b hb fun r cs1 o i1 i2=>by
  obtain ⟨q,k1,k2,k3⟩:=hcown r cs1 b o i1 i2
  rcases hst1.1 q cs1 k2 with ⟨_,j1⟩|⟨b',o',j1,j2,_⟩
  ·rw [k3] at j1;cases j1
  ·rw [k3] at j1;injection j1 with j1;injection j1 with j1 _;subst j1;exact hx j2) h1.bs h1.xs (fun _ _ h=>h)
 have hne:∀ r c b o,r ∉ qs→frK K fr r=some c→φ r=some (b,o)→∀ i cs o2,Hc i=some cs→φc i≠some (b,o2):=fun r c b o i1 i2 i3 i cs o2 i4 i5=>by
  obtain ⟨q,k1,k2,k3⟩:=hcown i cs b o2 i4 i5
  have:=hst1.2 r q c cs b o o2 i2 k2 i3 k3
  subst this
  exact i1 (List.mem_of_getElem? k1)
 have hup:∀ r c,ovr K (qs++fr) H2 r=some c→∃ c',frK K fr r=some c':=fun r c hr=>by
  rw [hov] at hr
  by_cases hrq:r∈qs
  ·obtain ⟨i,hi,rfl⟩:=List.getElem_of_mem hrq
   have hq:qs[i]?=some qs[i]:=List.getElem?_eq_getElem hi
   obtain ⟨cs,hc⟩:=hall i _ hq
   exact ⟨cs,hKq1 i _ cs hq hc⟩
  ·rw [if_neg hrq] at hr;exact ⟨c,hr⟩
 refine ⟨x,rfl,X',φ,?_,⟨fun r cs1 hr=>?_,fun r1 r2 c1 c2 b1 o1 o2 i1 i2 i3 i4=>?_,h2.gl⟩,h3.pure hv⟩
 ·refine (Nxt.frz (fr:=fr)).trans ⟨h1.os,h1.tape,h1.output,h1.size,fun b hb hn=>h1.same b hb (fun r cs1 o i1 i2=>?_),h1.bs,h1.xs,fun b hb hx=>?_,fun _ _=>rfl,fun r cs1 b1 o1 i1 i2=>?_⟩ fun _ h=>h
  ·obtain ⟨q,_,k2,k3⟩:=hcown r cs1 b o i1 i2
   exact hn q _ o k2 k3
  ·rcases h1.xk b hb hx with i1|⟨r,cs1,o,i1,i2⟩
   ·exact .inl i1
   ·obtain ⟨q,_,k2,k3⟩:=hcown r cs1 b o i1 i2
    exact .inr ⟨q,_,o,k2,k3⟩
  ·obtain ⟨c',k⟩:=hup r cs1 i1
   exact .inr ⟨r,c',o1,k,i2⟩
 ·rw [hov] at hr
  by_cases hrq:r∈qs
  ·rw [if_pos hrq] at hr
   obtain ⟨i,hi,rfl⟩:=List.getElem_of_mem hrq
   have hq:qs[i]?=some qs[i]:=List.getElem?_eq_getElem hi
   rw [ha i _ hq] at hr
   obtain ⟨i1,i2⟩|⟨b1,o1,i1,i2,i3⟩:=h2.1 i cs1 hr
   ·rw [hφ0 i _ hq] at i2;exact .inl ⟨i1,i2⟩
   ·rw [hφ0 i _ hq] at i1
    exact .inr ⟨b1,o1,i1,i2,i3.keepP rfl fun v a ha h=>h.pure1 (List.all_eq_true.1 (hout i cs1 hr).2 a ha)⟩
  ·rw [if_neg hrq] at hr
   obtain i1|⟨b1,o1,i1,i2,i3⟩:=hst1.1 r cs1 hr
   ·exact .inl i1
   ·have hown:=hne r cs1 b1 o1 hrq hr i1
    refine .inr ⟨b1,o1,i1,?_,i3.keep (h1.same b1 i3.lt fun i cs o2 k1 k2=>hown i cs o2 k1 k2) hkeep⟩
    rcases h1.xk b1 i3.lt i2 with k1|⟨i,cs2,o2,k1,k2⟩
    ·exact k1
    ·exact absurd k2 (hown i cs2 o2 k1)
 ·obtain ⟨d1,j1⟩:=hup r1 c1 i1
  obtain ⟨d2,j2⟩:=hup r2 c2 i2
  exact hst1.2 r1 r2 d1 d2 b1 o1 o2 j1 j2 i3 i4
theorem LO.call2 {q0 q1:Nat} {cs cs' ds ds':List AV} (ho:o.op=.call { callee:=.value (.func g),args:=xs,argTypes:=ts }) (hE:E (.func g)=some (.base (.func (.func g) #[] #[]))) (h:AFn P g 2 args (up (up mt 1 (some ds)) 0 (some cs)) v (up (up mt 1 (some ds')) 0 (some cs'))) (hF:FnOK P g)
 (hargs:ArgsM E H fr [q0,q1] xs.toList args) (hne:q0≠q1) (hf0:q0 ∉ fr) (hf1:q1 ∉ fr) (h0:H q0=some cs) (h1:H q1=some ds) (hc:cs.all AV.pure1=true) (hd:ds.all AV.pure1=true) (hc':cs'.all AV.pure1=true) (hd':ds'.all AV.pure1=true) (hcn:cs≠[]) (hdn:ds≠[]) (hv:v.pure=true) :
 LO P o E H f [] ([q0,q1]++fr) v (up (up (frK H fr) q1 (some ds')) q0 (some cs')):=by
 have ix:∀ i q,([q0,q1]:List Nat)[i]?=some q→(i=0∧q=q0)∨(i=1∧q=q1):=fun i q h=>by
  match i with
  | 0=>simp at h;exact .inl ⟨rfl,h.symm⟩
  | 1=>simp at h;exact .inr ⟨rfl,h.symm⟩
  | i + 2=>simp at h
 have hx:∀ (a b:List AV) i c,(up (up mt 1 (some b)) 0 (some a):Hp) i=some c→(i=0∧c=a)∨(i=1∧c=b):=fun a b i c h=>by
  by_cases e:i=0
  ·subst e;rw [up_at] at h;injection h with h;exact .inl ⟨rfl,h.symm⟩
  ·rw [up_ne e] at h
   by_cases e1:i=1
   ·subst e1;rw [up_at] at h;injection h with h;exact .inr ⟨rfl,h.symm⟩
   ·rw [up_ne e1] at h;cases h
 refine LO.callM (qs:=[q0,q1]) ho hE h hF hargs (by simp [hne]) (fun q hq=>by simp at hq;exact hq.elim (fun e=>e ▸ hf0) (fun e=>e ▸ hf1)) (fun i c hi=>?_) (fun i q hq=>?_) (fun i c hi=>?_) (fun i q hq=>?_) (fun r hr=>?_) hv
 ·rcases hx _ _ _ _ hi with ⟨rfl,rfl⟩|⟨rfl,rfl⟩
  ·exact ⟨q0,rfl,h0,hc,hcn⟩
  ·exact ⟨q1,rfl,h1,hd,hdn⟩
 ·rcases ix i q hq with ⟨rfl,_⟩|⟨rfl,_⟩
  ·exact ⟨cs,up_at _ _ _⟩
  ·exact ⟨ds,by rw [up_ne (by decide),up_at]⟩
 ·rcases hx _ _ _ _ hi with ⟨rfl,rfl⟩|⟨rfl,rfl⟩
  ·exact ⟨by simp,hc'⟩
  ·exact ⟨by simp,hd'⟩
 ·rcases ix i q hq with ⟨rfl,rfl⟩|⟨rfl,rfl⟩
  ·rw [up_at,up_at]
  ·rw [up_ne (fun e=>hne e.symm),up_at,up_ne (by decide),up_at]
 ·simp at hr
  rw [up_ne hr.1,up_ne hr.2]
end
theorem LO.indexStr {P:Program} {o:Oper} {E:Operand→Option AV} {H:Hp} {f:Nat} {t:TypeId} {x y:Operand} {k:IntKind} {i:Int} {j:Nat} {s:ByteArray} {b:UInt8} {size bytes:Nat} {zero:List AV} (ho:o.op=.index t x y) (hx:E x=some (.base (.string s))) (hy:E y=some (.base (.int k i))) (hi:i=(j:Int)) (ht:TyOK P t .str size bytes zero) (hb:s[j]?=some b):LO P o E H f [] [] (.base (.int .u8 (b.toNat:Int))) H :=
 .pure fun X φ w ρ hR=>by
  have e1:=(hR x (by simp [ho,Op.operands]) _ hx).base_eq
  have e2:=(hR y (by simp [ho,Op.operands]) _ hy).base_eq
  subst hi
  have h1:(0:Int)≤(j:Int):=by omega
  exact ⟨.int .u8 (b.toNat:Int),by simp [execOp,ho,e1,e2,Instr.index,asIntOf,run_underlying (lay_str ht),h1,hb],.base _⟩
section
variable {P:Program} {o:Oper} {E:Operand→Option AV} {H:Hp} {f:Nat} {g:FuncId} {xs:Array Operand} {ts:Array TypeId} {args:List AV} {fr:List Nat} {u:Value}
end
section
variable {P:Program} {k n m:Nat} {T:Tp} {H:Hp} {K:Exit→Nat→Tp→Hp→Prop}
end
section
variable {P:Program} {o:Oper} {E:Operand→Option AV} {H:Hp} {f:Nat} {t:TypeId} {size bytes:Nat} {zero:List AV} {x:Operand}
theorem run_sliceStr {w:World} {ρ:Operand→Value} {lo hi:Option Operand} {s:ByteArray} {m n:Nat} (ht:TyOK P t .str size bytes zero)
 (hl:(lo=none∧m=0)∨∃ y k,lo=some y∧ρ y=.int k (m:Int)) (hh:(hi=none∧n=s.size)∨∃ y k,hi=some y∧ρ y=.int k (n:Int)) (hmn:m≤n) (hn:n≤s.size) :
 (Instr.sliceAt t (.string s) (lo.map ρ) (hi.map ρ) (none:Option Value)).run P w=.ok (.string (s.extract m n)) w:=by
 have hb:(Instr.sliceBounds false s.size s.size (lo.map ρ) (hi.map ρ) none).run P w=.ok (m,n,s.size) w:=by
  rcases hl with ⟨rfl,rfl⟩|⟨y,k,rfl,ey⟩<;>rcases hh with ⟨rfl,rfl⟩|⟨y',k',rfl,ey'⟩
  ·simp [Instr.sliceBounds]
  ·simp [Instr.sliceBounds,Instr.sliceBound,asIntOf,ey',hn]
  ·simp [Instr.sliceBounds,Instr.sliceBound,asIntOf,ey,hmn]
  ·simp [Instr.sliceBounds,Instr.sliceBound,asIntOf,ey,ey',hmn,hn]
 simp [Instr.sliceAt,Instr.slice,Sem.run_bind,run_underlying (lay_str ht),Result.andThen_ok,hb]
theorem LO.slice_str {lo hi:Option Operand} {s:ByteArray} {m n:Nat} (ho:o.op=.slice t x lo hi none) (hx:E x=some (.base (.string s))) (hl:Bnd E lo 0 m) (hh:Bnd E hi s.size n) (hmn:m≤n) (hn:n≤s.size) (ht:TyOK P t .str size bytes zero):LO P o E H f [] [] (.base (.string (s.extract m n))) H :=
 .pure fun X φ w ρ hR=>by
  have e1:=(hR x (by simp [ho,Op.operands]) _ hx).base_eq
  have hl':=bnd_val (ρ:=ρ) hl fun y hy a ha=>hR y (by simp [ho,Op.operands,hy]) a ha
  have hh':=bnd_val (ρ:=ρ) hh fun y hy a ha=>hR y (by simp [ho,Op.operands,hy]) a ha
  exact ⟨_,by simp only [execOp,ho,e1,Sem.run_bind,Option.map_none,run_sliceStr (w:=w) ht hl' hh' hmn hn,Result.andThen_ok,Sem.run_pure];try rfl,.base _⟩
end
section
variable {P:Program} {o:Oper} {E:Operand→Option AV} {H:Hp} {f:Nat} {g:FuncId} {xs:Array Operand} {ts:Array TypeId} {args:List AV} {fr:List Nat} {v:AV} {z:Operand}
theorem run_callF {P:Program} {o:Oper} {g:FuncId} {fn:Func} {xs:Array Operand} {ts:Array TypeId} {z:Operand} {ρ:Operand→Value} {w:World} (ho:o.op=.call { callee:=.value z,args:=xs,argTypes:=ts }) (hρ:ρ z=.func (.func g) #[] #[])
 (hf : P.funcs[g]? = some fn) (hname : (fn.name == "runtime.NumGoroutine") = false) (hb : fn.body.isNone = false) : (execOp ρ o).run P w = .ok (.enter g (xs.map ρ)) w := by
 have he:=run_callFunc_enter hf hname hb (xs.map ρ) w
 simp only [execOp,ho,resolve,hρ,Deferred.ofValue,Sem.run_bind,Sem.run_pure,Result.andThen_ok,invoke]
 simpa using he
theorem LO.callF (ho:o.op=.call { callee:=.value z,args:=xs,argTypes:=ts }) (hE:E z=some (.base (.func (.func g) #[] #[]))) (h:AFn P g 0 args mt v mt) (hF:FnOK P g)
 (hargs:Args E H fr none xs.toList args) (hv:v.pure=true):LO P o E H f [] fr v (frK H fr):=by
 refine ⟨fun r hr=>if_neg hr,fun E' K hE' hK X φ w ρ hR hst hff=>?_⟩
 have hKf:∀ r,r∈fr→K r=H r:=fun r hr=>hK r (.inr hr)
 rw [ovr_frK hKf]
 obtain ⟨fn,hf,hname,hb⟩:=hF
 have hops:o.op.operands=#[z]++xs:=by rw [ho];rfl
 have hρ:ρ z=.func (.func g) #[] #[]:=(hR z _ ((hE' _ (by rw [hops];simp)).trans hE)).base_eq
 unfold OpW
 rw [run_callF ho hρ hf hname hb]
 obtain ⟨g1,g2⟩:=hargs.rep (K:=K) (X:=X) (φ:=φ) (φ':=mt) (w:=w) (ρ:=ρ) hKf hst (fun x hx a ha=>hR x a ((hE' x (by rw [hops];simp;exact .inr (by simpa using hx))).trans ha)) (fun q h=>by cases h)
 refine (h (frX X K φ fr) mt w (xs.map ρ) (by simp;simpa using g1) (fun i x a hx ha=>g2 i x a (by simpa using hx) ha) ⟨fun r cs h=>(by cases h),fun r r' cs cs' b o o' h=>(by cases h),hst.frz.gl⟩ (fun _ _=>rfl)).mono ?_
 rintro e w' ⟨x,X',φ',rfl,h1,h2,h3⟩
 have hst1:=hst.frz (fr:=fr)
 obtain ⟨k1,k2,_⟩:=nxt_pure hst1 h1 (fun _ _ _ _ _ _ _ _ _ h=>by cases h) (fun _ _ _ _ h=>by cases h)
 refine ⟨x,rfl,X',φ,?_,k2,h3.pure hv⟩
 have hn2:Nxt (frK K fr) (·=f) (frX X K φ fr) φ w (frK K fr) X' φ w' :=
  ⟨h1.os,h1.tape,h1.output,h1.size,fun b hb hn=>h1.same b hb (fun _ _ _ h=>by cases h),h1.bs,h1.xs,fun b hb hx=>(h1.xk b hb hx).imp id fun ⟨_,_,_,h,_⟩=>(by cases h),fun _ _=>rfl,fun r cs b o h1 h2=>.inr ⟨r,cs,o,h1,h2⟩⟩
 exact Nxt.frz.trans hn2 fun _ h=>h
end
section
variable {P:Program} {o:Oper} {E:Operand→Option AV} {H:Hp} {f:Nat} {t ty e:TypeId} {x y:Operand} {size bytes:Nat} {zero:List AV}
theorem LO.eqNilI {a:AV} {cs:List AV} {len:Nat} (ho:o.op=.binOp .eql t x y ty) (hx:E x=some a) (ha:a.isl?=some (cs,len)) (hl:0 < len) (hy:E y=some .nils) (ht:TyOK P t (.sl e) size bytes zero):LO P o E H f [] [] (.base (.bool false)) H :=
 .pure fun X φ w ρ hR=>by
  obtain ⟨A,cap,e1,hc,h0|⟨b,o',hA,_⟩⟩:=(hR x (by simp [ho,Op.operands]) _ hx).isl_inv ha
  ·omega
  have e2:ρ y=.slice none 0 0:=by
   have h:=hR y (by simp [ho,Op.operands]) _ hy
   generalize ρ y=u at h
   cases h;rfl
  subst hA
  have h2:=run_equal_slice_nil (P:=P) w t e (some ⟨b,o',none⟩) len cap (lay_sl ht)
  exact ⟨.bool false,by simp [execOp,ho,e1,e2,eqGuard,Go.binOp,h2],.base _⟩
theorem LO.eqNilB {A:Option Addr} {n cap:Nat} (ho:o.op=.binOp .eql t x y ty) (hx:E x=some (.base (.slice A n cap))) (hy:E y=some .nils) (ht:TyOK P t (.sl e) size bytes zero):LO P o E H f [] [] (.base (.bool A.isNone)) H :=
 .pure fun X φ w ρ hR=>by
  have e1:=(hR x (by simp [ho,Op.operands]) _ hx).base_eq
  have e2:ρ y=.slice none 0 0:=by
   have h:=hR y (by simp [ho,Op.operands]) _ hy
   generalize ρ y=u at h
   cases h;rfl
  have h2:=run_equal_slice_nil (P:=P) w t e A n cap (lay_sl ht)
  exact ⟨.bool A.isNone,by simp [execOp,ho,e1,e2,eqGuard,Go.binOp,h2],.base _⟩
end
theorem AFn.cases0 {P:Program} {f:FuncId} {k:Nat} {a:AV} {args:List AV} {H H':Hp} {v:AV} (h:∀ (X:Nat→Prop) (φ:Em) (w:World) (x:Value),Rep X w φ x a→∃ a',AFn P f k (a'::args) H v H'∧Rep X w φ x a'):AFn P f k (a::args) H v H':=fun X φ w vals h1 h2 h3 h4=>by
 have hlt:0 < vals.size:=by rw [h1];simp
 obtain ⟨a',k1,k2⟩:=h X φ w vals[0] (h2 0 vals[0] a (by simp [hlt]) rfl)
 exact k1 X φ w vals h1 (fun i x b hx hb=>by
  match i with
  | 0 =>
   simp at hb;subst hb
   have:vals[0]=x:=by simpa [hlt] using hx
   rw [← this];exact k2
  | i + 1=>exact h2 (i + 1) x b hx hb) h3 h4
theorem AFn.empty0 {P:Program} {f:FuncId} {k:Nat} {args:List AV} {H H':Hp} {v:AV} (h:∀ A cap,AFn P f k (.base (.slice A 0 cap)::args) H v H'):AFn P f k (.isl [] 0::args) H v H':=.cases0 fun X φ w x hx=>by
 obtain ⟨A,cap,e,_⟩:=hx.isl_inv rfl
 exact ⟨_,h A cap,e ▸ .base _⟩
def SOpM (P:Program) (o:Oper) (E:Operand→Option AV) (N c:Nat) (K:Hp) (v:AV) (K':Hp):Prop :=
 ∀ (X:Nat→Prop) (φ:Em) (w:World) (ρ:Operand→Value),(∀ x a,E x=some a→Rep X w φ (ρ x) a)→St X φ K w→(∀ r,N≤r→r < N + c→φ r=none) →
  OpW P o ρ w fun x w'=>∃ X' φ',Nxt K (fun r=>N≤r∧r < N + c) X φ w K' X' φ' w'∧St X' φ' K' w'∧Rep X' w' φ' x v
section
variable {P:Program} {Q:Exit→Act→World→Prop} {B:Base} {n m:Nat} {Fr:Nat→Prop} {T:Tp} {H H':Hp} {a:Act} {w:World}
theorem SimF.stepM {o:Oper} {N c:Nat} {v:AV} {K:Act→World→Prop} (hs:SimF B n Fr T H a w) (h:SOpM P o (ev T) N c H v H') (hf:∀ r,N≤r→r < N + c→Fr r) (hk:B.k≤N) (hd:∀ t,o.dst=some t→t < n)
 (hK:∀ a' w',SimF B n (fun r=>Fr r∧¬ (N≤r∧r < N + c)) (putT T o.dst v) H' a' w'→K a' w'):o.wp P a w K Q:=by
 obtain ⟨X,φ,h1,h2,h3,h4,h5,h6⟩:=hs
 have hE:∀ x c,ev T x=some c→Rep X w φ (a.eval x) c:=by
  intro x c hx
  cases x with
  | tmp t=>exact h5 t c hx
  | const u=>rw [ev_const] at hx;injection hx with hx;subst hx;exact rep_absC u
  | global g=>injection hx with hx;subst hx;exact .base _
  | func g=>injection hx with hx;subst hx;exact .base _
 refine OpW.wp ((h X φ w a.eval hE h4 (fun r r1 r2=>h6 r (hf r r1 r2))).mono fun x w' ⟨X',φ',g1,g2,g3⟩=>hK _ _ ⟨X',φ',?_,by rw [← h2];cases o.dst<;>simp [Act.put],by cases o.dst<;>exact h3,g2,?_,fun r hr=>?_⟩)
 ·exact h1.trans g1 fun r hr=>by have:=hr.1;omega
 ·refine putT_rep (fun t u ht=>?_) (fun t ht=>by rw [h2];exact hd t ht) g3
  exact g1.keep h4 (fun r hr=>h6 r (hf r hr.1 hr.2)) (h5 t u ht)
 ·rw [g1.ph r hr.2];exact h6 r hr.1
end
section
variable {P:Program} {k n m:Nat} {T:Tp} {H:Hp} {K:Exit→Nat→Tp→Hp→Prop}
end
section
variable {P:Program} {o:Oper} {E:Operand→Option AV} {H:Hp} {v v':AV} {g:FuncId} {xs:Array Operand} {ts:Array TypeId} {args:List AV} {fr:List Nat}
end
section
variable {P:Program} {o:Oper} {E:Operand→Option AV} {H:Hp} {f:Nat} {v:AV} {g:FuncId} {xs:Array Operand} {ts:Array TypeId} {args:List AV} {fr:List Nat}
end
section
variable {P:Program} {o:Oper} {E:Operand→Option AV} {H:Hp} {f:Nat} {g:FuncId} {xs:Array Operand} {ts:Array TypeId} {args cs:List AV} {fr:List Nat} {v:AV} {z:Operand}
theorem LO.makeClo {caps:Array Operand} (ho:o.op=.makeFunc (.func g) #[] caps) (hx:caps.toList.map E=cs.map some) (hp:cs.all AV.pure1=true):LO P o E H f [] [] (.clo g cs) H :=
 LO.pure fun X φ w ρ hR=>by
  refine ⟨.func (.func g) #[] (caps.map ρ),by simp [execOp,ho,Instr.makeFunc,Sem.run_pure],.clo g _ cs ?_ fun i u c hu hc=>?_⟩
  ·have:=congrArg List.length hx
   simpa using this
  ·have h1:(caps.toList.map E)[i]?=some (some c):=by rw [hx,List.getElem?_map,hc];rfl
   rw [List.getElem?_map] at h1
   obtain ⟨y,hy,e⟩:=Option.map_eq_some_iff.1 h1
   have hu2:u=ρ y:=by
    have h2:caps[i]?=some y:=by simpa using hy
    rw [Array.getElem?_map,h2] at hu
    exact (Option.some.inj hu).symm
   have hm:y∈o.op.operands:=by
    have h2:y∈caps.toList:=List.mem_of_getElem? hy
    rw [ho]
    simpa [Op.operands] using h2
   rw [hu2]
   exact (hR y hm c e).pure1 (List.all_eq_true.1 hp c (List.mem_of_getElem? hc))
theorem run_callClo {P:Program} {o:Oper} {g:FuncId} {fn:Func} {xs:Array Operand} {ts:Array TypeId} {z:Operand} {ρ:Operand→Value} {w:World} {vs:Array Value} (ho:o.op=.call { callee:=.value z,args:=xs,argTypes:=ts }) (hρ:ρ z=.func (.func g) #[] vs)
 (hf : P.funcs[g]? = some fn) (hname : (fn.name == "runtime.NumGoroutine") = false) (hb : fn.body.isNone = false) : (execOp ρ o).run P w = .ok (.enter g (xs.map ρ ++ vs)) w := by
 have he:=run_callFunc_enter hf hname hb (xs.map ρ++vs) w
 simp only [execOp,ho,resolve,hρ,Deferred.ofValue,Sem.run_bind,Sem.run_pure,Result.andThen_ok,invoke]
 simpa using he
end
theorem Rep.bases {X:Nat→Prop} {w:World} {φ:Em} {v:Value} {us:List Value} (h:Rep X w φ v (.agg (us.map AV.base))):v=.agg us.toArray:=by
 cases h with
 | agg vs _ hl h1 h =>
  have hl2:vs.size=us.length:=by simpa using hl
  congr 1
  refine Array.ext (by simpa using hl2) fun i h2 h3=>?_
  have h4:i < us.length:=by simpa using h3
  have:=h i vs[i] (.base us[i]) (by simp [h2]) (by simp [h4])
  simpa using this.base_eq
theorem LO.eqBases {P:Program} {o:Oper} {E:Operand→Option AV} {H:Hp} {f:Nat} {t ty:TypeId} {x y:Operand} {r:Bool} (neg:Bool) (us vs:List Value) {xs ys:List AV} (ho:o.op=.binOp (if neg then .neq else .eql) t x y ty) (hx:E x=some (.agg xs)) (hy:E y=some (.agg ys)) (e1:xs=us.map AV.base) (e2:ys=vs.map AV.base)
 (hg:∀ w,(eqGuard (if neg then .neq else .eql) t x y (.agg us.toArray) (.agg vs.toArray)).run P w=.ok () w) (h:∀ w,(Op.equal t (.agg us.toArray) (.agg vs.toArray)).run P w=.ok r w):LO P o E H f [] [] (.base (.bool (if neg then !r else r))) H:=by
 subst e1 e2
 refine .pure fun X φ w ρ hR=>?_
 have h1:=(hR x (by simp [ho,Op.operands]) _ hx).bases
 have h2:=(hR y (by simp [ho,Op.operands]) _ hy).bases
 refine ⟨.bool (if neg then !r else r),?_,.base _⟩
 cases neg
 ·have hg2:=hg w
  simp only [Bool.false_eq_true,if_false] at hg2 ho
  simp [execOp,ho,h1,h2,hg2,Go.binOp,h]
 ·have hg2:=hg w
  simp only [if_true] at hg2 ho
  simp [execOp,ho,h1,h2,hg2,Go.binOp,h]
theorem guardRun {P:Program} {t:TypeId} {us vs:Array Value} (x y:Operand) (b:Bool) (h:P.eqGuardType P.depth t=false) (w:World):(eqGuard (if b then .neq else .eql) t x y (.agg us) (.agg vs)).run P w=.ok () w:=by
 cases b<;>simp [eqGuard,h]
theorem flatLen {α:Type} {c:α→List AV} {n:Nat} (hc:∀ x,(c x).length=n) (l:List α):(l.flatMap c).length=l.length * n:=by
 induction l with
 | nil=>simp
 | cons x l ih=>rw [List.flatMap_cons,List.length_append,hc,ih,List.length_cons,Nat.succ_mul];omega
theorem flatPure {α:Type} {c:α→List AV} (hc:∀ x,(c x).all AV.pure1=true) (l:List α):(l.flatMap c).all AV.pure1=true:=by
 induction l with
 | nil=>rfl
 | cons x l ih=>rw [List.flatMap_cons,List.all_append,hc,ih];rfl
theorem flatAll {α:Type} {c:α→List AV} {n m:Nat} (hc:∀ x,(c x).length=n) {l:List α} (h:l.length=m):Tk (l.flatMap c) 0 (m * n) (l.flatMap c):=by
 have:=Tk.all (l.flatMap c)
 rwa [flatLen hc,h] at this
theorem flatTake {α:Type} {c:α→List AV} {n:Nat} (hc:∀ x,(c x).length=n) (l:List α) (m:Nat):(l.take m).flatMap c=(l.flatMap c).take (m * n):=by
 induction m generalizing l with
 | zero=>simp
 | succ m ih =>
  cases l with
  | nil=>simp
  | cons x l =>
   rw [List.take_succ_cons,List.flatMap_cons,List.flatMap_cons,ih,List.take_append,hc]
   rw [show (m + 1) * n - n=m * n from by rw [Nat.succ_mul];omega]
   congr 1
   exact (List.take_of_length_le (by rw [hc,Nat.succ_mul];omega)).symm
theorem flatPre {α:Type} {c:α→List AV} {n m k:Nat} (hc:∀ x,(c x).length=n) {l:List α} (h:k≤l.length) (hm:m=k * n):Tk (l.flatMap c) 0 m ((l.take k).flatMap c):=by
 subst hm
 refine ⟨by rw [flatLen hc,List.length_take];congr 1;omega,fun j d hj=>?_⟩
 rw [flatTake hc,List.getElem?_take] at hj
 split at hj
 ·rwa [Nat.zero_add]
 ·cases hj
section
variable {P:Program} {o:Oper} {E:Operand→Option AV} {H:Hp} {f:Nat} {t:TypeId} {x:Operand}
theorem LO.str {s e:TypeId} {xs:List Int} (ho:o.op=.convert s t x) (hx:E x=some (.isl (xs.map fun z=>.base (.int .u8 z)) xs.length)) (hs:P.underlying s=some (.slice e)) (he:P.underlying e=some (.int .u8)) (ht:P.underlying t=some .string):LO P o E H f [] [] (.base (.string (strOfNums xs))) H :=
 .pure fun X φ w ρ hR=>by
  have h:=hR x (by simp [ho,Op.operands]) _ hx
  refine ⟨.string (strOfNums xs),?_,.base _⟩
  have key:(convert s t (ρ x)).run P w=.ok (.string (strOfNums xs)) w:=by
   generalize ρ x=u at h
   generalize hn:xs.length=n at h
   generalize hc:(xs.map fun z=>AV.base (.int .u8 z))=cs at h
   cases h with
   | isl0 A cap =>
    have:xs=[]:=List.eq_nil_of_length_eq_zero hn
    subst this
    rw [run_convert_bytes_string w s t e _ _ _ hs he ht]
    cases A with
    | none=>simp [Conv.bytesToString,strOfNums];rfl
    | some a =>
     rw [run_bytesToString w a 0 cap [] (run_loadCells_list (P:=P) w a [] (fun j v hj=>by simp at hj))]
     rfl
   | isl _ _ cap b o us hb hX hcap h1 hcell hrep =>
    subst hc
    refine run_convert_bytes_arg w s e hs he b o n cap xs hn (fun i hi=>?_) t ht
    have hi2:i < xs.length:=by omega
    have hat:(xs.map fun z=>AV.base (.int .u8 z))[i]?=some (.base (.int .u8 xs[i])):=by simp [hi2]
    have h2:=hcell i _ hat
    have h3:=hrep i _ hat
    rw [h2]
    have h4:us i=.int .u8 xs[i]:=h3.base_eq
    rw [h4]
    simp [List.getD,hi2]
  simp only [execOp,ho,Sem.run_bind,key,Result.andThen_ok,Sem.run_pure]
end
end Go.Proofs.YtbfnfgpjgdbmeaaGreatDoor
namespace Go.Proofs.YtbfnfgpjgdbmeaaGreatDoor
theorem Od:type_of% @RW.opd:=@RW.opd
theorem On:type_of% @RW.opn:=@RW.opn
theorem Ud:type_of% @RW.ud:=@RW.ud
theorem Nl:type_of% @RW.nil:=@RW.nil
theorem Wq:type_of% @W.seq:=@W.seq
theorem Wd:type_of% @W.regionD:=@W.regionD
theorem Wt:type_of% @W.cond_t:=@W.cond_t
theorem Wo:type_of% @W.cond_f:=@W.cond_f
theorem Wu:type_of% @W.skip:=@W.skip
theorem Wb:type_of% @W.block:=@W.block
theorem Wx:type_of% @W.exit:=@W.exit
theorem Fi:type_of% @LO.fieldAddr_imm:=@LO.fieldAddr_imm
theorem Ld:type_of% @LO.load:=@LO.load
theorem Li:type_of% @LO.load_imm:=@LO.load_imm
theorem Lg:type_of% @LO.load_imm_agg:=@LO.load_imm_agg
theorem Pt:type_of% @LO.pick_t:=@LO.pick_t
theorem Pf0:type_of% @LO.pick_f:=@LO.pick_f
theorem Ia:type_of% @LO.indexAddr:=@LO.indexAddr
theorem Ii:type_of% @LO.indexAddr_isl:=@LO.indexAddr_isl
theorem Ad0:type_of% @LO.add_in:=@LO.add_in
theorem C0:type_of% @LO.call0:=@LO.call0
theorem C1:type_of% @LO.call1:=@LO.call1
theorem Bs:type_of% @LO.build_st:=@LO.build_st
theorem Cn:type_of% @List.cons_ne_nil:=@List.cons_ne_nil
theorem Nc:type_of% @LO.nilCheck:=@LO.nilCheck
theorem Ci:type_of% @LO.conv_in:=@LO.conv_in
theorem Sl:type_of% @Sp.lit:=@Sp.lit
theorem Tl:type_of% @Tk.lit:=@Tk.lit
theorem Rc:type_of% @RVs.cons:=@RVs.cons
theorem Rt0:type_of% @RV.tmp:=@RV.tmp
theorem Ra0:type_of% @RV.cellA:=@RV.cellA
theorem Rv:type_of% @RVs.nil:=@RVs.nil
theorem Wz:type_of% @W.ret:=@W.ret
theorem Wy:type_of% @W.frz1:=@W.frz1
theorem Lsi:type_of% @LO.slice_isl:=@LO.slice_isl
theorem CN:type_of% @LO.callN:=@LO.callN
theorem Lap:type_of% @LO.append:=@LO.append
theorem Lan:type_of% @LO.append_nil:=@LO.append_nil
theorem Ba:type_of% @Bnd.at:=@Bnd.at
theorem Ssi:type_of% @SrcAV.isl:=@SrcAV.isl
theorem Sso:type_of% @SrcAV.own:=@SrcAV.own
theorem Wv:type_of% @W.frzc:=@W.frzc
theorem aU:type_of% @all_up:=@all_up
theorem aM:type_of% @all_mt:=@all_mt
theorem lC:type_of% @LookR.cons:=@LookR.cons
theorem lN:type_of% @LookR.nil:=@LookR.nil
theorem iW:type_of% @IntWalk.i64_in:=@IntWalk.i64_in
theorem qM {P:Program} {ops:Array Oper} {m0 q0:Nat} {K:Tp→Hp→List (List Nat × List Nat)→Prop} {o:Oper} {l0:List Oper} {T:Tp} {H:Hp} {acc:List (List Nat × List Nat)} {t0:TypeId} {p0:String} {f0:Array Edge} {d0:Nat} {x:Operand} {a:AV} (h0:(o,ev T x)=((⟨some d0,.move x,t0,p0,f0,none⟩:Oper),some a))  (k0:RW P ops m0 K (q0 + 1) l0 (up T d0 (some a)) H (([],[])::acc)):RW P ops m0 K q0 (o::l0) T H acc:=by
 simp only [Prod.mk.injEq] at h0
 obtain ⟨rfl,e1⟩:=h0
 exact RW.opd rfl rfl (LO.move rfl e1) k0
theorem qA {P:Program} {ops:Array Oper} {m0 q0:Nat} {K:Tp→Hp→List (List Nat × List Nat)→Prop} {o:Oper} {l0:List Oper} {T:Tp} {H:Hp} {acc:List (List Nat × List Nat)} {t0:TypeId} {p0:String} {f0:Array Edge} {d0:Nat} {x:Operand} {a:AV} (h0:(o,ev T x)=((⟨some d0,.assign x,t0,p0,f0,none⟩:Oper),some a))  (k0:RW P ops m0 K (q0 + 1) l0 (up T d0 (some a)) H (([],[])::acc)):RW P ops m0 K q0 (o::l0) T H acc:=by
 simp only [Prod.mk.injEq] at h0
 obtain ⟨rfl,e1⟩:=h0
 exact RW.opd rfl rfl (LO.assign rfl e1) k0
theorem qF {P:Program} {ops:Array Oper} {m0 q0:Nat} {K:Tp→Hp→List (List Nat × List Nat)→Prop} {o:Oper} {l0:List Oper} {T:Tp} {H:Hp} {acc:List (List Nat × List Nat)} {t0:TypeId} {p0:String} {f0:Array Edge} {d0:Nat} {x:Operand} {t:TypeId} {size bytes:Nat} {zero:List AV} {fs:List (Nat × Nat × Nat)} {i d s ty r off:Nat} (h0:(o,ev T x)=((⟨some d0,.fieldAddr t x i,t0,p0,f0,none⟩:Oper),some (AV.own r off))) (ht:TyOK P t (.st fs) size bytes zero) (h1:(fs[i]?,Nat.ble 1 s)=(some (d,s,ty),true)) (k0:RW P ops m0 K (q0 + 1) l0 (up T d0 (some (.own r (off + d)))) H (([],[])::acc)):RW P ops m0 K q0 (o::l0) T H acc:=by
 simp only [Prod.mk.injEq] at h0
 obtain ⟨rfl,e1⟩:=h0
 simp only [Prod.mk.injEq] at h1
 obtain ⟨k1,k2⟩:=h1
 exact RW.opd rfl rfl (LO.fieldAddr rfl e1 ht k1 (Nat.le_of_ble_eq_true k2)) k0
theorem qI {P:Program} {ops:Array Oper} {m0 q0:Nat} {K:Tp→Hp→List (List Nat × List Nat)→Prop} {o:Oper} {l0:List Oper} {T:Tp} {H:Hp} {acc:List (List Nat × List Nat)} {t0:TypeId} {p0:String} {f0:Array Edge} {d0:Nat} {x:Operand} {t:TypeId} {size bytes:Nat} {zero cs:List AV} {fs:List (Nat × Nat × Nat)} {i d s ty off:Nat} (h0:(o,ev T x)=((⟨some d0,.fieldAddr t x i,t0,p0,f0,none⟩:Oper),some (AV.imm cs off))) (ht:TyOK P t (.st fs) size bytes zero) (h1:(fs[i]?,Nat.ble 1 s)=(some (d,s,ty),true)) (k0:RW P ops m0 K (q0 + 1) l0 (up T d0 (some (.imm cs (off + d)))) H (([],[])::acc)):RW P ops m0 K q0 (o::l0) T H acc:=by
 simp only [Prod.mk.injEq] at h0
 obtain ⟨rfl,e1⟩:=h0
 simp only [Prod.mk.injEq] at h1
 obtain ⟨k1,k2⟩:=h1
 exact RW.opd rfl rfl (LO.fieldAddr_imm rfl e1 ht k1 (Nat.le_of_ble_eq_true k2)) k0
theorem qL {P:Program} {ops:Array Oper} {m0 q0:Nat} {K:Tp→Hp→List (List Nat × List Nat)→Prop} {o:Oper} {l0:List Oper} {T:Tp} {H:Hp} {acc:List (List Nat × List Nat)} {t0:TypeId} {p0:String} {f0:Array Edge} {d0:Nat} {x:Operand} {a:AV}{t:TypeId} {lay:Lay} {size bytes:Nat} {zero:List AV} {cs:List AV} {r off:Nat} (h0:(o,ev T x,H r,cs[off]?)=((⟨some d0,.load t x,t0,p0,f0,none⟩:Oper),some (AV.own r off),some cs,some a)) (ht:TyOK P t lay size bytes zero) (hg:lay.agg=false) (k0:RW P ops m0 K (q0 + 1) l0 (up T d0 (some a)) H (([r],[])::acc)):RW P ops m0 K q0 (o::l0) T H acc:=by
 simp only [Prod.mk.injEq] at h0
 obtain ⟨rfl,e1,e2,e3⟩:=h0
 exact RW.opd rfl rfl (LO.load rfl e1 e2 e3 ht hg) k0
theorem qG {P:Program} {ops:Array Oper} {m0 q0:Nat} {K:Tp→Hp→List (List Nat × List Nat)→Prop} {o:Oper} {l0:List Oper} {T:Tp} {H:Hp} {acc:List (List Nat × List Nat)} {t0:TypeId} {p0:String} {f0:Array Edge} {d0:Nat} {x:Operand}{t:TypeId} {lay:Lay} {size bytes:Nat} {zero:List AV} {cs vs:List AV} {r off:Nat} (h0:(o,ev T x,H r)=((⟨some d0,.load t x,t0,p0,f0,none⟩:Oper),some (AV.own r off),some cs)) (ht:TyOK P t lay size bytes zero) (hg:lay.agg=true) (hv:Tk cs off size vs) (k0:RW P ops m0 K (q0 + 1) l0 (up T d0 (some (.agg vs))) H (([r],[])::acc)):RW P ops m0 K q0 (o::l0) T H acc:=by
 simp only [Prod.mk.injEq] at h0
 obtain ⟨rfl,e1,e2⟩:=h0
 exact RW.opd rfl rfl (LO.load_agg rfl e1 e2 ht hg hv) k0
theorem qS {P:Program} {ops:Array Oper} {m0 q0:Nat} {K:Tp→Hp→List (List Nat × List Nat)→Prop} {o:Oper} {l0:List Oper} {T:Tp} {H:Hp} {acc:List (List Nat × List Nat)} {t0:TypeId} {p0:String} {f0:Array Edge} {x y:Operand} {a:AV}{t:TypeId} {lay:Lay} {size bytes:Nat} {zero:List AV} {cs cs':List AV} {r off:Nat} (h0:(o,ev T x,ev T y,H r,a.okb)=((⟨none,.store t x y,t0,p0,f0,none⟩:Oper),some (AV.own r off),some a,some cs,true)) (ht:TyOK P t lay size bytes zero) (hs:Sp cs off a.cells cs') (h1:(a.cells.length,Nat.ble 1 size)=(size,true)) (k0:RW P ops m0 K (q0 + 1) l0 T (up H r (some cs')) (([],[r])::acc)):RW P ops m0 K q0 (o::l0) T H acc:=by
 simp only [Prod.mk.injEq] at h0
 obtain ⟨rfl,e1,e2,e3,e4⟩:=h0
 simp only [Prod.mk.injEq] at h1
 obtain ⟨k1,k2⟩:=h1
 exact RW.opn rfl rfl (LO.store rfl e1 e2 e3 e4 ht k1 (Nat.le_of_ble_eq_true k2) hs) k0
theorem qE {P:Program} {ops:Array Oper} {m0 q0:Nat} {K:Tp→Hp→List (List Nat × List Nat)→Prop} {o:Oper} {l0:List Oper} {T:Tp} {H:Hp} {acc:List (List Nat × List Nat)} {t0:TypeId} {p0:String} {f0:Array Edge} {d0:Nat} {x y:Operand} {t ty:TypeId} {k:IntKind} {m n:Int} (h0:(o,ev T x,ev T y)=((⟨some d0,.binOp .eql t x y ty,t0,p0,f0,none⟩:Oper),some (AV.base (.int k m)),some (AV.base (.int k n))))  (k0:RW P ops m0 K (q0 + 1) l0 (up T d0 (some (.base (.bool (m == n))))) H (([],[])::acc)):RW P ops m0 K q0 (o::l0) T H acc:=by
 simp only [Prod.mk.injEq] at h0
 obtain ⟨rfl,e1,e2⟩:=h0
 exact RW.opd rfl rfl (LO.eql rfl e1 e2) k0
theorem qN {P:Program} {ops:Array Oper} {m0 q0:Nat} {K:Tp→Hp→List (List Nat × List Nat)→Prop} {o:Oper} {l0:List Oper} {T:Tp} {H:Hp} {acc:List (List Nat × List Nat)} {t0:TypeId} {p0:String} {f0:Array Edge} {d0:Nat} {x y:Operand} {t ty:TypeId} {k:IntKind} {m n:Int} (h0:(o,ev T x,ev T y)=((⟨some d0,.binOp .neq t x y ty,t0,p0,f0,none⟩:Oper),some (AV.base (.int k m)),some (AV.base (.int k n))))  (k0:RW P ops m0 K (q0 + 1) l0 (up T d0 (some (.base (.bool (m != n))))) H (([],[])::acc)):RW P ops m0 K q0 (o::l0) T H acc:=by
 simp only [Prod.mk.injEq] at h0
 obtain ⟨rfl,e1,e2⟩:=h0
 exact RW.opd rfl rfl (LO.neq rfl e1 e2) k0
theorem qK {P:Program} {ops:Array Oper} {m0 q0:Nat} {K:Tp→Hp→List (List Nat × List Nat)→Prop} {o:Oper} {l0:List Oper} {T:Tp} {H:Hp} {acc:List (List Nat × List Nat)} {t0:TypeId} {p0:String} {f0:Array Edge} {d0:Nat} {x y:Operand} {t ty:TypeId} {k:IntKind} {m n:Int} (h0:(o,ev T x,ev T y)=((⟨some d0,.binOp .lss t x y ty,t0,p0,f0,none⟩:Oper),some (AV.base (.int k m)),some (AV.base (.int k n))))  (k0:RW P ops m0 K (q0 + 1) l0 (up T d0 (some (.base (.bool (decide (m < n)))))) H (([],[])::acc)):RW P ops m0 K q0 (o::l0) T H acc:=by
 simp only [Prod.mk.injEq] at h0
 obtain ⟨rfl,e1,e2⟩:=h0
 exact RW.opd rfl rfl (LO.lss rfl e1 e2) k0
theorem qP {P:Program} {ops:Array Oper} {m0 q0:Nat} {K:Tp→Hp→List (List Nat × List Nat)→Prop} {o:Oper} {l0:List Oper} {T:Tp} {H:Hp} {acc:List (List Nat × List Nat)} {t0:TypeId} {p0:String} {f0:Array Edge} {d0:Nat} {c x y:Operand} {b:Bool} {a:AV} (h0:(o,ev T c)=((⟨some d0,.pick c x y,t0,p0,f0,none⟩:Oper),some (AV.base (.bool b)))) (hb:b=false) (hy:ev T y=some a) (k0:RW P ops m0 K (q0 + 1) l0 (up T d0 (some a)) H (([],[])::acc)):RW P ops m0 K q0 (o::l0) T H acc:=by
 simp only [Prod.mk.injEq] at h0
 obtain ⟨rfl,e1⟩:=h0
 exact RW.opd rfl rfl (LO.pick_f rfl e1 hb hy) k0
theorem qT {P:Program} {ops:Array Oper} {m0 q0:Nat} {K:Tp→Hp→List (List Nat × List Nat)→Prop} {o:Oper} {l0:List Oper} {T:Tp} {H:Hp} {acc:List (List Nat × List Nat)} {t0:TypeId} {p0:String} {f0:Array Edge} {d0:Nat} {c x y:Operand} {b:Bool} {a:AV} (h0:(o,ev T c)=((⟨some d0,.pick c x y,t0,p0,f0,none⟩:Oper),some (AV.base (.bool b)))) (hb:b=true) (hy:ev T x=some a) (k0:RW P ops m0 K (q0 + 1) l0 (up T d0 (some a)) H (([],[])::acc)):RW P ops m0 K q0 (o::l0) T H acc:=by
 simp only [Prod.mk.injEq] at h0
 obtain ⟨rfl,e1⟩:=h0
 exact RW.opd rfl rfl (LO.pick_t rfl e1 hb hy) k0
theorem qX {P:Program} {ops:Array Oper} {m0 q0:Nat} {K:Tp→Hp→List (List Nat × List Nat)→Prop} {o:Oper} {l0:List Oper} {T:Tp} {H:Hp} {acc:List (List Nat × List Nat)} {t0:TypeId} {p0:String} {f0:Array Edge} {d0:Nat} {x:Operand} {a:AV} {i:Nat} {vs:List AV} (h0:(o,ev T x,vs[i]?)=((⟨some d0,.extract x i,t0,p0,f0,none⟩:Oper),some (AV.tup vs),some a))  (k0:RW P ops m0 K (q0 + 1) l0 (up T d0 (some a)) H (([],[])::acc)):RW P ops m0 K q0 (o::l0) T H acc:=by
 simp only [Prod.mk.injEq] at h0
 obtain ⟨rfl,e1,e2⟩:=h0
 exact RW.opd rfl rfl (LO.extract rfl e1 e2) k0
theorem qB {P:Program} {ops:Array Oper} {m0 q0:Nat} {K:Tp→Hp→List (List Nat × List Nat)→Prop} {o:Oper} {l0:List Oper} {T:Tp} {H:Hp} {acc:List (List Nat × List Nat)} {t0:TypeId} {p0:String} {f0:Array Edge} {d0:Nat} {t:TypeId} {lay:Lay} {size bytes:Nat} {zero:List AV} (h0:(o)=((⟨some d0,.alloc t,t0,p0,f0,none⟩:Oper))) (ht:TyOK P t lay size bytes zero) (k0:RW P ops m0 K (q0 + 1) l0 (up T d0 (some (.own (m0 + q0) 0))) (up H (m0 + q0) (some zero)) (([],[m0 + q0])::acc)):RW P ops m0 K q0 (o::l0) T H acc:=by
 obtain rfl:=h0
 exact RW.opd rfl rfl (LO.alloc rfl ht) k0
theorem qC {P:Program} {ops:Array Oper} {m0 q0:Nat} {K:Tp→Hp→List (List Nat × List Nat)→Prop} {o:Oper} {l0:List Oper} {T:Tp} {H:Hp} {acc:List (List Nat × List Nat)} {t0:TypeId} {p0:String} {f0:Array Edge} {d0:Nat} {x:Operand} {a:AV} {t:TypeId} (h0:(o,ev T x,a.okb)=((⟨some d0,.box t x,t0,p0,f0,none⟩:Oper),some a,true))  (k0:RW P ops m0 K (q0 + 1) l0 (up T d0 (some (.own (m0 + q0) 0))) (up H (m0 + q0) (some a.cells)) (([],[m0 + q0])::acc)):RW P ops m0 K q0 (o::l0) T H acc:=by
 simp only [Prod.mk.injEq] at h0
 obtain ⟨rfl,e1,e2⟩:=h0
 exact RW.opd rfl rfl (LO.box rfl e1 e2) k0
theorem qO {P:Program} {ops:Array Oper} {m0 q0:Nat} {K:Tp→Hp→List (List Nat × List Nat)→Prop} {o:Oper} {l0:List Oper} {T:Tp} {H:Hp} {acc:List (List Nat × List Nat)} {t0:TypeId} {p0:String} {f0:Array Edge} {d0:Nat} {x:Operand} {t:TypeId} {b:Bool} (h0:(o,ev T x)=((⟨some d0,.unOp .not t x,t0,p0,f0,none⟩:Oper),some (AV.base (.bool b))))  (k0:RW P ops m0 K (q0 + 1) l0 (up T d0 (some (.base (.bool (!b))))) H (([],[])::acc)):RW P ops m0 K q0 (o::l0) T H acc:=by
 simp only [Prod.mk.injEq] at h0
 obtain ⟨rfl,e1⟩:=h0
 exact RW.opd rfl rfl (LO.not rfl e1) k0
theorem qH {P:Program} {ops:Array Oper} {m0 q0:Nat} {K:Tp→Hp→List (List Nat × List Nat)→Prop} {o:Oper} {l0:List Oper} {T:Tp} {H:Hp} {acc:List (List Nat × List Nat)} {t0:TypeId} {p0:String} {f0:Array Edge} {d0:Nat} {x:Operand} {a:AV} {t:TypeId} {e size bytes len:Nat} {zero cs:List AV} (h0:(o,ev T x,a.isl?)=((⟨some d0,.call { callee:=.builtin .len,args:=#[x],argTypes:=#[t] },t0,p0,f0,none⟩:Oper),some a,some (cs,len))) (ht:TyOK P t (.sl e) size bytes zero) (k0:RW P ops m0 K (q0 + 1) l0 (up T d0 (some (.base (.int .i64 (len:Int))))) H (([],[])::acc)):RW P ops m0 K q0 (o::l0) T H acc:=by
 simp only [Prod.mk.injEq] at h0
 obtain ⟨rfl,e1,e2⟩:=h0
 exact RW.opd rfl rfl (LO.len_isl rfl e1 e2 ht) k0
theorem qJ {P:Program} {ops:Array Oper} {m0 q0:Nat} {K:Tp→Hp→List (List Nat × List Nat)→Prop} {o:Oper} {l0:List Oper} {T:Tp} {H:Hp} {acc:List (List Nat × List Nat)} {t0:TypeId} {p0:String} {f0:Array Edge} {d0:Nat} {x y:Operand} {a:AV} {t:TypeId} {e size bytes len sz by' j:Nat} {zero cs z':List AV} {l':Lay} {k:IntKind} {i:Int} (h0:(o,ev T x,a.isl?,ev T y)=((⟨some d0,.indexAddr t x y,t0,p0,f0,none⟩:Oper),some a,some (cs,len),some (AV.base (.int k i)))) (hi:i=(j:Int)) (ht:TyOK P t (.sl e) size bytes zero) (he:TyOK P e l' sz by' z') (hj:j < len) (k0:RW P ops m0 K (q0 + 1) l0 (up T d0 (some (.imm cs (j * sz)))) H (([],[])::acc)):RW P ops m0 K q0 (o::l0) T H acc:=by
 simp only [Prod.mk.injEq] at h0
 obtain ⟨rfl,e1,e2,e3⟩:=h0
 exact RW.opd rfl rfl (LO.indexAddr_isl rfl e1 e2 e3 hi ht he hj) k0
theorem qZ {P:Program} {ops:Array Oper} {m0 q0:Nat} {K:Tp→Hp→List (List Nat × List Nat)→Prop} {o:Oper} {l0:List Oper} {T:Tp} {H:Hp} {acc:List (List Nat × List Nat)} {t0:TypeId} {p0:String} {f0:Array Edge} {d0:Nat} {x y:Operand} {t ty:TypeId} {k:IntKind} {m n:Int} (h0:(o,ev T x,ev T y)=((⟨some d0,.binOp .add t x y ty,t0,p0,f0,none⟩:Oper),some (AV.base (.int k m)),some (AV.base (.int k n)))) (hw:k.wrap (m + n)=m + n) (k0:RW P ops m0 K (q0 + 1) l0 (up T d0 (some (.base (.int k (m + n))))) H (([],[])::acc)):RW P ops m0 K q0 (o::l0) T H acc:=by
 simp only [Prod.mk.injEq] at h0
 obtain ⟨rfl,e1,e2⟩:=h0
 exact RW.opd rfl rfl (LO.add_in rfl e1 e2 hw) k0
theorem qArgs {E:Operand→Option AV} {H:Hp} {fr:List Nat} {r:Option Nat}:∀ {xs:List Operand} {zs:List AV},xs.map E=zs.map some→zs.all AV.pure=true→Args E H fr r xs zs
 | [],[],_,_=>.nil
 | x::xs,a::zs,h,hp=>by
  simp only [List.map_cons,List.cons.injEq] at h
  simp only [List.all_cons,Bool.and_eq_true] at hp
  exact .cons h.1 (.pure hp.1) (qArgs h.2 hp.2)
 | [],_::_,h,_=>by cases h
 | _::_,[],h,_=>by cases h
theorem qY {P:Program} {ops:Array Oper} {m0 q0:Nat} {K:Tp→Hp→List (List Nat × List Nat)→Prop} {o:Oper} {l0:List Oper} {T:Tp} {H:Hp} {acc:List (List Nat × List Nat)} {t0:TypeId} {p0:String} {f0:Array Edge} {d0:Nat} {g:FuncId} {xs:Array Operand} {ts:Array TypeId} {v:AV} {args:List AV} (h0:(o,ev T (.func g))=((⟨some d0,.call { callee:=.value (.func g),args:=xs,argTypes:=ts },t0,p0,f0,none⟩:Oper),some (AV.base (.func (.func g) #[] #[])))) (hc:AFn P g 0 args mt v mt) (hF:FnOK P g) (h1:(xs.toList.map (ev T),args.all AV.pure,v.pure)=(args.map some,true,true)) (k0:RW P ops m0 K (q0 + 1) l0 (up T d0 (some v)) (frK H []) (([],[])::acc)):RW P ops m0 K q0 (o::l0) T H acc:=by
 simp only [Prod.mk.injEq] at h0
 obtain ⟨rfl,e1⟩:=h0
 simp only [Prod.mk.injEq] at h1
 obtain ⟨k1,k2,k3⟩:=h1
 exact RW.opd rfl rfl (LO.call0 (fr:=[]) rfl e1 hc hF (qArgs k1 k2) k3) k0
theorem qW {P:Program} {k n m:Nat} {T:Tp} {H:Hp} {K:Exit→Nat→Tp→Hp→Prop} {ops:Array Oper} {id:Nat} (s m':Nat) (h1:(Nat.ble m s,s + ops.size,dstsLt ops.toList n)=(true,m',true)) (h:RW P ops s (fun T' H' _=>K .normal m' T' H') 0 ops.toList T H []):W P k n (.region id ops false) m T H K:=by
 simp only [Prod.mk.injEq] at h1
 exact W.region s m' (Nat.le_of_ble_eq_true h1.1) h1.2.1 h1.2.2 h
theorem qD {P:Program} {ops:Array Oper} {m i:Nat} {K:Tp→Hp→List (List Nat × List Nat)→Prop} {o:Oper} {l:List Oper} {T:Tp} {H:Hp} {acc:List (List Nat × List Nat)} {d j t:Nat} {b x:Bool} (h:(o.guard,dstAt ops j,T t)=(some (j,b),some t,some (AV.base (.bool x)))) (hx:x=!b) (hd:o.dst=some d) (k:RW P ops m K (i + 1) l (up T d (some (.base undef))) H (([],[])::acc)):RW P ops m K i (o::l) T H acc:=by
 simp only [Prod.mk.injEq] at h
 exact RW.sd h.1 h.2.1 h.2.2 hx hd k
theorem qU {P:Program} {ops:Array Oper} {m i:Nat} {K:Tp→Hp→List (List Nat × List Nat)→Prop} {o:Oper} {l:List Oper} {T:Tp} {H H':Hp} {acc:List (List Nat × List Nat)} {rd wr:List Nat} {v:AV} {d j t:Nat} {b x:Bool} (h:(o.guard,dstAt ops j,T t)=(some (j,b),some t,some (AV.base (.bool x)))) (hx:x=b) (hd:o.dst=some d) (h2:LO P o (ev T) H (m + i) rd wr v H') (k:RW P ops m K (i + 1) l (up T d (some v)) H' ((rd,wr)::acc)):RW P ops m K i (o::l) T H acc:=by
 simp only [Prod.mk.injEq] at h
 exact RW.gd h.1 h.2.1 h.2.2 hx hd h2 k
theorem kR {L:List (Nat × Nat)} {m:Nat} {H:Hp} {r:Nat} {cs:List AV} (h:(keyIn L r,H (sg L m r),cs.all AV.pure1)=(true,some cs,true)):RenH L m H r cs:=by
 simp only [Prod.mk.injEq] at h
 exact ⟨h.1,_,h.2.1,.inr ⟨rfl,h.2.2⟩⟩
theorem kI {L:List (Nat × Nat)} {m:Nat} {H:Hp} {r:Nat} {cs:List AV} (h:(keyIn L r,H (sg L m r))=(true,some (cs.map (ren1 (sg L m))))):RenH L m H r cs:=by
 simp only [Prod.mk.injEq] at h
 exact ⟨h.1,_,h.2,.inl rfl⟩
theorem lR {σ:Nat→Nat} {T:Tp} {t:Nat} {v:AV} (h:(T t,v.pure)=(some v,true)):RenT σ T t v:=by
 simp only [Prod.mk.injEq] at h
 exact .inl h
def noTup:AV→Bool
 | .tup _=>false
 | _=>true
theorem lI {σ:Nat→Nat} {T:Tp} {t:Nat} {v:AV} (h:(T t,noTup v)=(some (ren2 σ v),true)):RenT σ T t v:=by
 simp only [Prod.mk.injEq] at h
 exact .inr ⟨h.1,fun vs e=>by rw [e] at h;cases h.2⟩
theorem gM {P:Program} {ops:Array Oper} {m0 q0:Nat} {K:Tp→Hp→List (List Nat × List Nat)→Prop} {o:Oper} {l0:List Oper} {T:Tp} {H:Hp} {acc:List (List Nat × List Nat)} {t0:TypeId} {p0:String} {f0:Array Edge} {d0 jg tg:Nat} {bg xg:Bool} {x:Operand} {a:AV} (h0:(o,dstAt ops jg,T tg,ev T x)=((⟨some d0,.move x,t0,p0,f0,some (jg,bg)⟩:Oper),some tg,some (AV.base (.bool xg)),some a)) (hx:xg=bg)  (k0:RW P ops m0 K (q0 + 1) l0 (up T d0 (some a)) H (([],[])::acc)):RW P ops m0 K q0 (o::l0) T H acc:=by
 simp only [Prod.mk.injEq] at h0
 obtain ⟨rfl,g1,g2,e1⟩:=h0
 exact RW.gd rfl g1 g2 hx rfl (LO.move rfl e1) k0
theorem gF {P:Program} {ops:Array Oper} {m0 q0:Nat} {K:Tp→Hp→List (List Nat × List Nat)→Prop} {o:Oper} {l0:List Oper} {T:Tp} {H:Hp} {acc:List (List Nat × List Nat)} {t0:TypeId} {p0:String} {f0:Array Edge} {d0 jg tg:Nat} {bg xg:Bool} {x:Operand} {t:TypeId} {size bytes:Nat} {zero:List AV} {fs:List (Nat × Nat × Nat)} {i d s ty r off:Nat} (h0:(o,dstAt ops jg,T tg,ev T x)=((⟨some d0,.fieldAddr t x i,t0,p0,f0,some (jg,bg)⟩:Oper),some tg,some (AV.base (.bool xg)),some (AV.own r off))) (hx:xg=bg) (ht:TyOK P t (.st fs) size bytes zero) (h1:(fs[i]?,Nat.ble 1 s)=(some (d,s,ty),true)) (k0:RW P ops m0 K (q0 + 1) l0 (up T d0 (some (.own r (off + d)))) H (([],[])::acc)):RW P ops m0 K q0 (o::l0) T H acc:=by
 simp only [Prod.mk.injEq] at h0
 obtain ⟨rfl,g1,g2,e1⟩:=h0
 simp only [Prod.mk.injEq] at h1
 obtain ⟨k1,k2⟩:=h1
 exact RW.gd rfl g1 g2 hx rfl (LO.fieldAddr rfl e1 ht k1 (Nat.le_of_ble_eq_true k2)) k0
theorem gL {P:Program} {ops:Array Oper} {m0 q0:Nat} {K:Tp→Hp→List (List Nat × List Nat)→Prop} {o:Oper} {l0:List Oper} {T:Tp} {H:Hp} {acc:List (List Nat × List Nat)} {t0:TypeId} {p0:String} {f0:Array Edge} {d0 jg tg:Nat} {bg xg:Bool} {x:Operand} {a:AV}{t:TypeId} {lay:Lay} {size bytes:Nat} {zero:List AV} {cs:List AV} {r off:Nat} (h0:(o,dstAt ops jg,T tg,ev T x,H r,cs[off]?)=((⟨some d0,.load t x,t0,p0,f0,some (jg,bg)⟩:Oper),some tg,some (AV.base (.bool xg)),some (AV.own r off),some cs,some a)) (hx:xg=bg) (ht:TyOK P t lay size bytes zero) (hg:lay.agg=false) (k0:RW P ops m0 K (q0 + 1) l0 (up T d0 (some a)) H (([r],[])::acc)):RW P ops m0 K q0 (o::l0) T H acc:=by
 simp only [Prod.mk.injEq] at h0
 obtain ⟨rfl,g1,g2,e1,e2,e3⟩:=h0
 exact RW.gd rfl g1 g2 hx rfl (LO.load rfl e1 e2 e3 ht hg) k0
theorem gG {P:Program} {ops:Array Oper} {m0 q0:Nat} {K:Tp→Hp→List (List Nat × List Nat)→Prop} {o:Oper} {l0:List Oper} {T:Tp} {H:Hp} {acc:List (List Nat × List Nat)} {t0:TypeId} {p0:String} {f0:Array Edge} {d0 jg tg:Nat} {bg xg:Bool} {x:Operand}{t:TypeId} {lay:Lay} {size bytes:Nat} {zero:List AV} {cs vs:List AV} {r off:Nat} (h0:(o,dstAt ops jg,T tg,ev T x,H r)=((⟨some d0,.load t x,t0,p0,f0,some (jg,bg)⟩:Oper),some tg,some (AV.base (.bool xg)),some (AV.own r off),some cs)) (hx:xg=bg) (ht:TyOK P t lay size bytes zero) (hg:lay.agg=true) (hv:Tk cs off size vs) (k0:RW P ops m0 K (q0 + 1) l0 (up T d0 (some (.agg vs))) H (([r],[])::acc)):RW P ops m0 K q0 (o::l0) T H acc:=by
 simp only [Prod.mk.injEq] at h0
 obtain ⟨rfl,g1,g2,e1,e2⟩:=h0
 exact RW.gd rfl g1 g2 hx rfl (LO.load_agg rfl e1 e2 ht hg hv) k0
theorem gE {P:Program} {ops:Array Oper} {m0 q0:Nat} {K:Tp→Hp→List (List Nat × List Nat)→Prop} {o:Oper} {l0:List Oper} {T:Tp} {H:Hp} {acc:List (List Nat × List Nat)} {t0:TypeId} {p0:String} {f0:Array Edge} {d0 jg tg:Nat} {bg xg:Bool} {x y:Operand} {t ty:TypeId} {k:IntKind} {m n:Int} (h0:(o,dstAt ops jg,T tg,ev T x,ev T y)=((⟨some d0,.binOp .eql t x y ty,t0,p0,f0,some (jg,bg)⟩:Oper),some tg,some (AV.base (.bool xg)),some (AV.base (.int k m)),some (AV.base (.int k n)))) (hx:xg=bg)  (k0:RW P ops m0 K (q0 + 1) l0 (up T d0 (some (.base (.bool (m == n))))) H (([],[])::acc)):RW P ops m0 K q0 (o::l0) T H acc:=by
 simp only [Prod.mk.injEq] at h0
 obtain ⟨rfl,g1,g2,e1,e2⟩:=h0
 exact RW.gd rfl g1 g2 hx rfl (LO.eql rfl e1 e2) k0
theorem gN {P:Program} {ops:Array Oper} {m0 q0:Nat} {K:Tp→Hp→List (List Nat × List Nat)→Prop} {o:Oper} {l0:List Oper} {T:Tp} {H:Hp} {acc:List (List Nat × List Nat)} {t0:TypeId} {p0:String} {f0:Array Edge} {d0 jg tg:Nat} {bg xg:Bool} {x y:Operand} {t ty:TypeId} {k:IntKind} {m n:Int} (h0:(o,dstAt ops jg,T tg,ev T x,ev T y)=((⟨some d0,.binOp .neq t x y ty,t0,p0,f0,some (jg,bg)⟩:Oper),some tg,some (AV.base (.bool xg)),some (AV.base (.int k m)),some (AV.base (.int k n)))) (hx:xg=bg)  (k0:RW P ops m0 K (q0 + 1) l0 (up T d0 (some (.base (.bool (m != n))))) H (([],[])::acc)):RW P ops m0 K q0 (o::l0) T H acc:=by
 simp only [Prod.mk.injEq] at h0
 obtain ⟨rfl,g1,g2,e1,e2⟩:=h0
 exact RW.gd rfl g1 g2 hx rfl (LO.neq rfl e1 e2) k0
theorem gK {P:Program} {ops:Array Oper} {m0 q0:Nat} {K:Tp→Hp→List (List Nat × List Nat)→Prop} {o:Oper} {l0:List Oper} {T:Tp} {H:Hp} {acc:List (List Nat × List Nat)} {t0:TypeId} {p0:String} {f0:Array Edge} {d0 jg tg:Nat} {bg xg:Bool} {x y:Operand} {t ty:TypeId} {k:IntKind} {m n:Int} (h0:(o,dstAt ops jg,T tg,ev T x,ev T y)=((⟨some d0,.binOp .lss t x y ty,t0,p0,f0,some (jg,bg)⟩:Oper),some tg,some (AV.base (.bool xg)),some (AV.base (.int k m)),some (AV.base (.int k n)))) (hx:xg=bg)  (k0:RW P ops m0 K (q0 + 1) l0 (up T d0 (some (.base (.bool (decide (m < n)))))) H (([],[])::acc)):RW P ops m0 K q0 (o::l0) T H acc:=by
 simp only [Prod.mk.injEq] at h0
 obtain ⟨rfl,g1,g2,e1,e2⟩:=h0
 exact RW.gd rfl g1 g2 hx rfl (LO.lss rfl e1 e2) k0
theorem gGt {P:Program} {ops:Array Oper} {m0 q0:Nat} {K:Tp→Hp→List (List Nat × List Nat)→Prop} {o:Oper} {l0:List Oper} {T:Tp} {H:Hp} {acc:List (List Nat × List Nat)} {t0:TypeId} {p0:String} {f0:Array Edge} {d0 jg tg:Nat} {bg xg:Bool} {x y:Operand} {t ty:TypeId} {k:IntKind} {m n:Int} (h0:(o,dstAt ops jg,T tg,ev T x,ev T y)=((⟨some d0,.binOp .gtr t x y ty,t0,p0,f0,some (jg,bg)⟩:Oper),some tg,some (AV.base (.bool xg)),some (AV.base (.int k m)),some (AV.base (.int k n)))) (hx:xg=bg)  (k0:RW P ops m0 K (q0 + 1) l0 (up T d0 (some (.base (.bool (decide (n < m)))))) H (([],[])::acc)):RW P ops m0 K q0 (o::l0) T H acc:=by
 simp only [Prod.mk.injEq] at h0
 obtain ⟨rfl,g1,g2,e1,e2⟩:=h0
 exact RW.gd rfl g1 g2 hx rfl (LO.gtr rfl e1 e2) k0
theorem gGe {P:Program} {ops:Array Oper} {m0 q0:Nat} {K:Tp→Hp→List (List Nat × List Nat)→Prop} {o:Oper} {l0:List Oper} {T:Tp} {H:Hp} {acc:List (List Nat × List Nat)} {t0:TypeId} {p0:String} {f0:Array Edge} {d0 jg tg:Nat} {bg xg:Bool} {x y:Operand} {t ty:TypeId} {k:IntKind} {m n:Int} (h0:(o,dstAt ops jg,T tg,ev T x,ev T y)=((⟨some d0,.binOp .geq t x y ty,t0,p0,f0,some (jg,bg)⟩:Oper),some tg,some (AV.base (.bool xg)),some (AV.base (.int k m)),some (AV.base (.int k n)))) (hx:xg=bg)  (k0:RW P ops m0 K (q0 + 1) l0 (up T d0 (some (.base (.bool (decide (n≤m)))))) H (([],[])::acc)):RW P ops m0 K q0 (o::l0) T H acc:=by
 simp only [Prod.mk.injEq] at h0
 obtain ⟨rfl,g1,g2,e1,e2⟩:=h0
 exact RW.gd rfl g1 g2 hx rfl (LO.geq rfl e1 e2) k0
theorem gLe {P:Program} {ops:Array Oper} {m0 q0:Nat} {K:Tp→Hp→List (List Nat × List Nat)→Prop} {o:Oper} {l0:List Oper} {T:Tp} {H:Hp} {acc:List (List Nat × List Nat)} {t0:TypeId} {p0:String} {f0:Array Edge} {d0 jg tg:Nat} {bg xg:Bool} {x y:Operand} {t ty:TypeId} {k:IntKind} {m n:Int} (h0:(o,dstAt ops jg,T tg,ev T x,ev T y)=((⟨some d0,.binOp .leq t x y ty,t0,p0,f0,some (jg,bg)⟩:Oper),some tg,some (AV.base (.bool xg)),some (AV.base (.int k m)),some (AV.base (.int k n)))) (hx:xg=bg)  (k0:RW P ops m0 K (q0 + 1) l0 (up T d0 (some (.base (.bool (decide (m≤n)))))) H (([],[])::acc)):RW P ops m0 K q0 (o::l0) T H acc:=by
 simp only [Prod.mk.injEq] at h0
 obtain ⟨rfl,g1,g2,e1,e2⟩:=h0
 exact RW.gd rfl g1 g2 hx rfl (LO.leq rfl e1 e2) k0
theorem gO {P:Program} {ops:Array Oper} {m0 q0:Nat} {K:Tp→Hp→List (List Nat × List Nat)→Prop} {o:Oper} {l0:List Oper} {T:Tp} {H:Hp} {acc:List (List Nat × List Nat)} {t0:TypeId} {p0:String} {f0:Array Edge} {d0 jg tg:Nat} {bg xg:Bool} {x:Operand} {t:TypeId} {b:Bool} (h0:(o,dstAt ops jg,T tg,ev T x)=((⟨some d0,.unOp .not t x,t0,p0,f0,some (jg,bg)⟩:Oper),some tg,some (AV.base (.bool xg)),some (AV.base (.bool b)))) (hx:xg=bg)  (k0:RW P ops m0 K (q0 + 1) l0 (up T d0 (some (.base (.bool (!b))))) H (([],[])::acc)):RW P ops m0 K q0 (o::l0) T H acc:=by
 simp only [Prod.mk.injEq] at h0
 obtain ⟨rfl,g1,g2,e1⟩:=h0
 exact RW.gd rfl g1 g2 hx rfl (LO.not rfl e1) k0
theorem gH {P:Program} {ops:Array Oper} {m0 q0:Nat} {K:Tp→Hp→List (List Nat × List Nat)→Prop} {o:Oper} {l0:List Oper} {T:Tp} {H:Hp} {acc:List (List Nat × List Nat)} {t0:TypeId} {p0:String} {f0:Array Edge} {d0 jg tg:Nat} {bg xg:Bool} {x:Operand} {a:AV} {t:TypeId} {e size bytes len:Nat} {zero cs:List AV} (h0:(o,dstAt ops jg,T tg,ev T x,a.isl?)=((⟨some d0,.call { callee:=.builtin .len,args:=#[x],argTypes:=#[t] },t0,p0,f0,some (jg,bg)⟩:Oper),some tg,some (AV.base (.bool xg)),some a,some (cs,len))) (hx:xg=bg) (ht:TyOK P t (.sl e) size bytes zero) (k0:RW P ops m0 K (q0 + 1) l0 (up T d0 (some (.base (.int .i64 (len:Int))))) H (([],[])::acc)):RW P ops m0 K q0 (o::l0) T H acc:=by
 simp only [Prod.mk.injEq] at h0
 obtain ⟨rfl,g1,g2,e1,e2⟩:=h0
 exact RW.gd rfl g1 g2 hx rfl (LO.len_isl rfl e1 e2 ht) k0
theorem gY {P:Program} {ops:Array Oper} {m0 q0:Nat} {K:Tp→Hp→List (List Nat × List Nat)→Prop} {o:Oper} {l0:List Oper} {T:Tp} {H:Hp} {acc:List (List Nat × List Nat)} {t0:TypeId} {p0:String} {f0:Array Edge} {d0 jg tg:Nat} {bg xg:Bool} {g:FuncId} {xs:Array Operand} {ts:Array TypeId} {v:AV} {args:List AV} (h0:(o,dstAt ops jg,T tg,ev T (.func g))=((⟨some d0,.call { callee:=.value (.func g),args:=xs,argTypes:=ts },t0,p0,f0,some (jg,bg)⟩:Oper),some tg,some (AV.base (.bool xg)),some (AV.base (.func (.func g) #[] #[])))) (hx:xg=bg) (hc:AFn P g 0 args mt v mt) (hF:FnOK P g) (h1:(xs.toList.map (ev T),args.all AV.pure,v.pure)=(args.map some,true,true)) (k0:RW P ops m0 K (q0 + 1) l0 (up T d0 (some v)) (frK H []) (([],[])::acc)):RW P ops m0 K q0 (o::l0) T H acc:=by
 simp only [Prod.mk.injEq] at h0
 obtain ⟨rfl,g1,g2,e1⟩:=h0
 simp only [Prod.mk.injEq] at h1
 obtain ⟨k1,k2,k3⟩:=h1
 exact RW.gd rfl g1 g2 hx rfl (LO.call0 (fr:=[]) rfl e1 hc hF (qArgs k1 k2) k3) k0
theorem qGt {P:Program} {ops:Array Oper} {m0 q0:Nat} {K:Tp→Hp→List (List Nat × List Nat)→Prop} {o:Oper} {l0:List Oper} {T:Tp} {H:Hp} {acc:List (List Nat × List Nat)} {t0:TypeId} {p0:String} {f0:Array Edge} {d0:Nat} {x y:Operand} {t ty:TypeId} {k:IntKind} {m n:Int} (h0:(o,ev T x,ev T y)=((⟨some d0,.binOp .gtr t x y ty,t0,p0,f0,none⟩:Oper),some (AV.base (.int k m)),some (AV.base (.int k n))))  (k0:RW P ops m0 K (q0 + 1) l0 (up T d0 (some (.base (.bool (decide (n < m)))))) H (([],[])::acc)):RW P ops m0 K q0 (o::l0) T H acc:=by
 simp only [Prod.mk.injEq] at h0
 obtain ⟨rfl,e1,e2⟩:=h0
 exact RW.opd rfl rfl (LO.gtr rfl e1 e2) k0
theorem qGe {P:Program} {ops:Array Oper} {m0 q0:Nat} {K:Tp→Hp→List (List Nat × List Nat)→Prop} {o:Oper} {l0:List Oper} {T:Tp} {H:Hp} {acc:List (List Nat × List Nat)} {t0:TypeId} {p0:String} {f0:Array Edge} {d0:Nat} {x y:Operand} {t ty:TypeId} {k:IntKind} {m n:Int} (h0:(o,ev T x,ev T y)=((⟨some d0,.binOp .geq t x y ty,t0,p0,f0,none⟩:Oper),some (AV.base (.int k m)),some (AV.base (.int k n))))  (k0:RW P ops m0 K (q0 + 1) l0 (up T d0 (some (.base (.bool (decide (n≤m)))))) H (([],[])::acc)):RW P ops m0 K q0 (o::l0) T H acc:=by
 simp only [Prod.mk.injEq] at h0
 obtain ⟨rfl,e1,e2⟩:=h0
 exact RW.opd rfl rfl (LO.geq rfl e1 e2) k0
theorem qLe {P:Program} {ops:Array Oper} {m0 q0:Nat} {K:Tp→Hp→List (List Nat × List Nat)→Prop} {o:Oper} {l0:List Oper} {T:Tp} {H:Hp} {acc:List (List Nat × List Nat)} {t0:TypeId} {p0:String} {f0:Array Edge} {d0:Nat} {x y:Operand} {t ty:TypeId} {k:IntKind} {m n:Int} (h0:(o,ev T x,ev T y)=((⟨some d0,.binOp .leq t x y ty,t0,p0,f0,none⟩:Oper),some (AV.base (.int k m)),some (AV.base (.int k n))))  (k0:RW P ops m0 K (q0 + 1) l0 (up T d0 (some (.base (.bool (decide (m≤n)))))) H (([],[])::acc)):RW P ops m0 K q0 (o::l0) T H acc:=by
 simp only [Prod.mk.injEq] at h0
 obtain ⟨rfl,e1,e2⟩:=h0
 exact RW.opd rfl rfl (LO.leq rfl e1 e2) k0
theorem kP {L:List (Nat × Nat)} {m:Nat} {H:Hp} {r:Nat} {cs:List AV} (h:(keyIn L r,H (sg L m r))=(true,some cs)) (h2:cs.all AV.pure1=true):RenH L m H r cs:=by
 simp only [Prod.mk.injEq] at h
 exact ⟨h.1,_,h.2,.inr ⟨rfl,h2⟩⟩
end Go.Proofs.YtbfnfgpjgdbmeaaGreatDoor
namespace Go.Proofs.YtbfnfgpjgdbmeaaGreatDoor
abbrev vI (z:Int):AV:=.base (.int .i64 z)
abbrev vB (z:Int):AV:=.base (.int .u8 z)
abbrev vU (z:Int):AV:=.base (.int .u64 z)
abbrev vF:AV:=.base (.bool false)
abbrev vT:AV:=.base (.bool true)
theorem aR {σ:Nat→Nat} {T F:Tp} {k:Nat} {v:AV} (hl:∀ t u,F t=some u→RenT σ T t u) (h:(T k,v.pure)=(some v,true):=by exact rfl):∀ t u,up F k (some v) t=some u→RenT σ T t u:=aU (lR h) hl
theorem aI {σ:Nat→Nat} {T F:Tp} {k:Nat} {v:AV} (hl:∀ t u,F t=some u→RenT σ T t u) (h:(T k,noTup v)=(some (ren2 σ v),true):=by exact rfl):∀ t u,up F k (some v) t=some u→RenT σ T t u:=aU (lI h) hl
end Go.Proofs.YtbfnfgpjgdbmeaaGreatDoor
