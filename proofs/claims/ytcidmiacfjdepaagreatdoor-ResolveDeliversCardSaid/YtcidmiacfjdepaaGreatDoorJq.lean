/-
  Where a frame goes.
-/
import Derived.Test.YtcidmiacfjdepaaGreatDoorLv
import Derived.Test.YtcidmiacfjdepaaGreatDoorMab
namespace Go.Proofs.YtcidmiacfjdepaaGreatDoor
open Go.RowKit
def whereP (l:List Rl) (m:List Int):Int × Bool:=match whereF l m with
  | some r=>(r.port,true)
  | none=>(0,false)
theorem whereV_eq (l:List Rl) (m:List Int):whereV l m=.tup [.base (.int .i64 (whereP l m).1),.base (.bool (whereP l m).2)]:=by
  unfold whereV whereP
  cases whereF l m<;>rfl
def boundP (l:List Bd) (a:Ad):Bd × Bool:=match boundF l a with
  | some b=>(b,true)
  | none=>(zBd,false)
theorem boundV_eq (l:List Bd) (a:Ad):boundV l a=.tup [.agg (bdC (boundP l a).1),.base (.bool (boundP l a).2)]:=by
  unfold boundV boundP
  cases boundF l a<;>rfl
theorem boundF_mem:∀ {l:List Bd} {a:Ad} {b:Bd},boundF l a=some b→b∈l∧b.ad=a:=by
  intro l
  induction l with
  | nil=>intro a b h;cases h
  | cons x l ih =>
    intro a b h
    rw [show boundF (x::l) a=if eqA x.ad a then some x else boundF l a from rfl] at h
    split at h
    · rename_i he
      injection h with h
      subst h
      exact ⟨by simp,eqA_iff.1 he⟩
    · have:=ih h
      exact ⟨by simp [this.1],this.2⟩
theorem boundP_len {l:List Bd} (h:MacOk l) (a:Ad):(boundP l a).1.mac.length=6:=by
  unfold boundP
  cases hb:boundF l a with
  | none=>rfl
  | some b=>exact h b (boundF_mem hb).1
structure TablesOk (rs:List Rl) (bs:List Bd):Prop where
  rl:rs.length≤100000
  bl:bs.length≤100000
  rm:∀ r,r∈rs→r.macs.length≤1000∧∀ x,x∈r.macs→x.length=6
  bm:MacOk bs
def tgtF (rs:List Rl) (bs:List Bd) (f:Fr):Int × List Int × Bool :=
  if grpE f.dst then ((boundP bs (asksF f).1).1.port,(boundP bs (asksF f).1).1.mac,(asksF f).2 && (boundP bs (asksF f).1).2)
  else ((whereP rs f.dst).1,f.dst,(whereP rs f.dst).2)
def tgtV (t:Int × List Int × Bool):AV:=.tup [.base (.int .i64 t.1),.agg (bytesC t.2.1),.base (.bool t.2.2)]
set_option maxHeartbeats 2000000 in
theorem target_any (rs:List Rl) (bs:List Bd) (f:Fr) (ht:TablesOk rs bs) (hf:FrOk f):AFn Tryz.prog 32 0 [.isl (rulesC rs) rs.length,.isl (bdsC bs) bs.length,.agg (frC f)] mt (tgtV (tgtF rs bs f)) mt:=by
  refine AFn.eq Tryz.func32 rfl rfl (Nat.le_of_ble_eq_true rfl) ?_
  have hak:=asks_any f hf
  have hwh:=where_any rs f.dst hf.d6 ht.rl ht.rm
  have hbo:=bound_any bs (asksF f).1 ht.bl ht.bm
  have hbl:=boundP_len ht.bm (asksF f).1
  have hgr:=grpE_any f.dst hf.d6
  rw [whereV_eq] at hwh
  rw [boundV_eq] at hbo
  unfold tgtF
  generalize asksF f=ak at *
  generalize boundP bs ak.1=bp at *
  unfold asksV at hak
  obtain ⟨ad,ak⟩:=ak
  obtain ⟨⟨bad,bmac,bport⟩,bok⟩:=bp
  obtain ⟨dst,src,vl,ty,data⟩:=f
  have d6:=hf.d6
  have s6:=hf.s6
  clear hf
  dsimp only at *
  generalize whereP rs dst=wp at *
  obtain ⟨wport,wok⟩:=wp
  obtain ⟨d0,d1,d2,d3,d4,d5,rfl⟩:=six_of d6
  obtain ⟨s0,s1,s2,s3,s4,s5,rfl⟩:=six_of s6
  obtain ⟨m0,m1,m2,m3,m4,m5,rfl⟩:=six_of hbl
  obtain ⟨g,hg⟩:∃ g,grpE [d0,d1,d2,d3,d4,d5]=g:=⟨_,rfl⟩
  rw [hg] at hgr ⊢
  refine Wq (qW 0 4 rfl rfl rfl (qC rfl rfl rfl (qA rfl rfl (qB rfl ty23 (qA rfl rfl (Nl ?_))))))
  cases g
  case' false =>
    rw [if_neg (by decide)]
    refine Wq (Wq (qW 8 12 rfl rfl rfl (qF rfl rfl ty26 rfl rfl (qG rfl rfl rfl ty23 rfl (Tl rfl) (Od rfl rfl (C0 (fr:=[]) rfl rfl (hgr) fok25 (.cons rfl (.pure rfl) .nil) rfl) (qO rfl rfl (Nl (Wt rfl rfl (Wq (qW 16 25 rfl rfl rfl (qM rfl rfl (qF rfl rfl ty26 rfl rfl (qG rfl rfl rfl ty23 rfl (Tl rfl) (Od rfl rfl (C0 (fr:=[]) rfl rfl (hwh) fok74 (.cons rfl (.pure rfl) (.cons rfl (.pure rfl) .nil)) rfl) (qM rfl rfl (qX rfl rfl rfl (qX rfl rfl rfl (qA rfl rfl (qA rfl rfl (Nl (Wq (Wd 29 36 (by decide) rfl mixed rfl (qM rfl rfl (qF rfl rfl ty26 rfl rfl (qG rfl rfl rfl ty23 rfl (Tl rfl) (qM rfl rfl (qA rfl rfl (qS rfl rfl rfl rfl rfl ty23 rfl rfl (Sl rfl) (qA rfl rfl (Nl ⟨by kernel_rfl,?_⟩))))))))))))))))))))))))))))))
    refine W.ret ⟨.inl rfl,_,mt,(RVs.cons (RV.tmp rfl) (RVs.cons (RV.cellA rfl rfl ty23 rfl (Tk.lit rfl)) (RVs.cons (RV.tmp rfl) RVs.nil))),(by (repeat' (first|exact all_mt|refine all_up ?_ ?_))<;>rfl),?_⟩
    exact ⟨rfl,rfl⟩
  case' true =>
    rw [if_pos rfl]
    refine Wq (Wq (qW 8 12 rfl rfl rfl (qF rfl rfl ty26 rfl rfl (qG rfl rfl rfl ty23 rfl (Tl rfl) (Od rfl rfl (C0 (fr:=[]) rfl rfl (hgr) fok25 (.cons rfl (.pure rfl) .nil) rfl) (qO rfl rfl (Nl (Wf rfl rfl (Wk (Wq (qW 40 48 rfl rfl rfl (qG rfl rfl rfl ty26 rfl (Tl rfl) (Od rfl rfl (C0 (fr:=[]) rfl rfl (hak) fok8 (.cons rfl (.pure rfl) .nil) rfl) (qM rfl rfl (qX rfl rfl rfl (qX rfl rfl rfl (qB rfl ty42 (qS rfl rfl rfl rfl rfl ty42 rfl rfl (Sl rfl) (qA rfl rfl (Nl (Wq (qW 52 61 rfl rfl rfl (qM rfl rfl (qG rfl rfl rfl ty42 rfl (Tl rfl) (Od rfl rfl (C0 (fr:=[]) rfl rfl (hbo) fok75 (.cons rfl (.pure rfl) (.cons rfl (.pure rfl) .nil)) rfl) (qM rfl rfl (qX rfl rfl rfl (qX rfl rfl rfl (qB rfl ty85 (qS rfl rfl rfl rfl rfl ty85 rfl rfl (Sl rfl) (qA rfl rfl (Nl ?_))))))))))))))))))))))))))))))))
    cases ak
    case' true =>
      refine Wq (Wd 65 76 (by decide) rfl mixed rfl (qF rfl rfl ty85 rfl rfl (qL rfl rfl rfl rfl ty3 rfl (qF rfl rfl ty85 rfl rfl (qG rfl rfl rfl ty23 rfl (Tl rfl) (qM rfl rfl (qM rfl rfl (Gd rfl rfl rfl rfl rfl (Mv rfl rfl) (qT rfl rfl rfl rfl (qA rfl rfl (qS rfl rfl rfl rfl rfl ty23 rfl rfl (Sl rfl) (qA rfl rfl (Nl ⟨by kernel_rfl,?_⟩)))))))))))))
      refine W.ret ⟨.inl rfl,_,mt,(RVs.cons (RV.tmp rfl) (RVs.cons (RV.cellA rfl rfl ty23 rfl (Tk.lit rfl)) (RVs.cons (RV.tmp rfl) RVs.nil))),(by (repeat' (first|exact all_mt|refine all_up ?_ ?_))<;>rfl),?_⟩
      exact ⟨rfl,rfl⟩
    case' false =>
      refine Wq (Wd 65 76 (by decide) rfl mixed rfl (qF rfl rfl ty85 rfl rfl (qL rfl rfl rfl rfl ty3 rfl (qF rfl rfl ty85 rfl rfl (qG rfl rfl rfl ty23 rfl (Tl rfl) (qM rfl rfl (qM rfl rfl (Sd rfl rfl rfl rfl rfl (qP rfl rfl rfl rfl (qA rfl rfl (qS rfl rfl rfl rfl rfl ty23 rfl rfl (Sl rfl) (qA rfl rfl (Nl ⟨by kernel_rfl,?_⟩)))))))))))))
      refine W.ret ⟨.inl rfl,_,mt,(RVs.cons (RV.tmp rfl) (RVs.cons (RV.cellA rfl rfl ty23 rfl (Tk.lit rfl)) (RVs.cons (RV.tmp rfl) RVs.nil))),(by (repeat' (first|exact all_mt|refine all_up ?_ ?_))<;>rfl),?_⟩
      exact ⟨rfl,rfl⟩
def zFr:Fr:=⟨[0,0,0,0,0,0],[0,0,0,0,0,0],0,0,[]⟩
def dlvF (rs:List Rl) (bs:List Bd) (fm:Int) (f:Fr):Int × Fr × Int :=
  if (tgtF rs bs f).2.2=false∨(tgtF rs bs f).1=fm then (0,zFr,13) else ((tgtF rs bs f).1,⟨(tgtF rs bs f).2.1,f.src,f.vl,f.ty,f.data⟩,0)
def dlvV (t:Int × Fr × Int):AV:=.tup [.base (.int .i64 t.1),.agg (frC t.2.1),.base (.int .i64 t.2.2)]
theorem tgtF_len {rs:List Rl} {bs:List Bd} {f:Fr} (ht:TablesOk rs bs) (hf:FrOk f):(tgtF rs bs f).2.1.length=6:=by
  unfold tgtF
  split
  · exact boundP_len ht.bm _
  · exact hf.d6
set_option maxHeartbeats 2000000 in
theorem deliver_any (rs:List Rl) (bs:List Bd) (fm:Int) (f:Fr) (ht:TablesOk rs bs) (hf:FrOk f):AFn Tryz.prog 10 0 [.isl (rulesC rs) rs.length,.isl (bdsC bs) bs.length,.base (.int .i64 fm),.agg (frC f)] mt (dlvV (dlvF rs bs fm f)) mt:=by
  refine AFn.eq Tryz.func10 rfl rfl (Nat.le_of_ble_eq_true rfl) ?_
  have hta:=target_any rs bs f ht hf
  have htl:=tgtF_len ht hf
  have hcl:=clone_any f.data (by have:=hf.bl;omega)
  unfold dlvF
  generalize tgtF rs bs f=tg at *
  unfold tgtV at hta
  obtain ⟨port,mac,ok⟩:=tg
  obtain ⟨dst,src,vl,ty,data⟩:=f
  have d6:=hf.d6
  have s6:=hf.s6
  clear hf
  dsimp only at *
  obtain ⟨d0,d1,d2,d3,d4,d5,rfl⟩:=six_of d6
  obtain ⟨s0,s1,s2,s3,s4,s5,rfl⟩:=six_of s6
  obtain ⟨m0,m1,m2,m3,m4,m5,rfl⟩:=six_of htl
  refine Wq (qW 0 4 rfl rfl rfl (qC rfl rfl rfl (qA rfl rfl (qB rfl ty26 (qA rfl rfl (Nl (Wq (qW 8 20 rfl rfl rfl (qM rfl rfl (qM rfl rfl (qG rfl rfl rfl ty26 rfl (Tl rfl) (Od rfl rfl (C0 (fr:=[]) rfl rfl (hta) fok32 (.cons rfl (.pure rfl) (.cons rfl (.pure rfl) (.cons rfl (.pure rfl) .nil))) rfl) (qM rfl rfl (qX rfl rfl rfl (qX rfl rfl rfl (qX rfl rfl rfl (qB rfl ty23 (qA rfl rfl (qS rfl rfl rfl rfl rfl ty23 rfl rfl (Sl rfl) (qA rfl rfl (Nl ?_)))))))))))))))))))))
  cases ok
  case' false =>
    rw [if_pos (.inl rfl)]
    refine Wq (Wq (qW 24 31 rfl rfl rfl (qM rfl rfl (qO rfl rfl (qM rfl rfl (Sd rfl rfl rfl rfl rfl (Sd rfl rfl rfl rfl rfl (Sd rfl rfl rfl rfl rfl (qT rfl rfl rfl rfl (Nl (Wt rfl rfl (Wq (qW 35 39 rfl rfl rfl (Od rfl rfl (Bs rfl ty26 .nil) (qA rfl rfl (qS rfl rfl rfl rfl rfl ty26 rfl rfl (Sl rfl) (qA rfl rfl (Nl (W.nilc (q:=2) (j:=14) rfl rfl (Sl rfl) ?_)))))))))))))))))))
    refine W.ret ⟨.inl rfl,_,mt,(RVs.cons (RV.tmp rfl) (RVs.cons (RV.cellA rfl rfl ty26 rfl (Tk.lit rfl)) (RVs.cons (RV.tmp rfl) RVs.nil))),(by (repeat' (first|exact all_mt|refine all_up ?_ ?_))<;>rfl),?_⟩
    exact ⟨rfl,rfl⟩
  case' true =>
    cases k1:(port == fm)
    case' true =>
      rw [if_pos (.inr (by simpa using k1))]
      refine Wq (Wq (qW 24 31 rfl rfl rfl (qM rfl rfl (qO rfl rfl (qM rfl rfl (Gd rfl rfl rfl rfl rfl (Mv rfl rfl) (Gd rfl rfl rfl rfl rfl (Mv rfl rfl) (Gd rfl rfl rfl rfl rfl (Eq0 rfl rfl rfl) (qP rfl rfl rfl rfl (Nl (Wt rfl ‹_› (Wq (qW 35 39 rfl rfl rfl (Od rfl rfl (Bs rfl ty26 .nil) (qA rfl rfl (qS rfl rfl rfl rfl rfl ty26 rfl rfl (Sl rfl) (qA rfl rfl (Nl (W.nilc (q:=2) (j:=14) rfl rfl (Sl rfl) ?_)))))))))))))))))))
      refine W.ret ⟨.inl rfl,_,mt,(RVs.cons (RV.tmp rfl) (RVs.cons (RV.cellA rfl rfl ty26 rfl (Tk.lit rfl)) (RVs.cons (RV.tmp rfl) RVs.nil))),(by (repeat' (first|exact all_mt|refine all_up ?_ ?_))<;>rfl),?_⟩
      exact ⟨rfl,rfl⟩
    case' false =>
      rw [if_neg (by rintro (h | h); · cases h
                     · rw [h] at k1;simp at k1)]
      refine Wq (Wq (qW 24 31 rfl rfl rfl (qM rfl rfl (qO rfl rfl (qM rfl rfl (Gd rfl rfl rfl rfl rfl (Mv rfl rfl) (Gd rfl rfl rfl rfl rfl (Mv rfl rfl) (Gd rfl rfl rfl rfl rfl (Eq0 rfl rfl rfl) (qP rfl rfl rfl rfl (Nl (Wf rfl ‹_› (Wk (Wq (Wd 43 51 (by decide) rfl mixed rfl (qG rfl rfl rfl ty23 rfl (Tl rfl) (qF rfl rfl ty26 rfl rfl (qL rfl rfl rfl rfl ty24 rfl (Od rfl rfl (C0 (fr:=[]) rfl rfl (hcl) fok33 (.cons rfl (.pure rfl) .nil) rfl) (qF rfl rfl ty26 rfl rfl (qS rfl rfl rfl rfl rfl ty23 rfl rfl (Sl rfl) (qF rfl rfl ty26 rfl rfl (qS rfl rfl rfl rfl rfl ty24 rfl rfl (Sl rfl) (Nl ⟨by kernel_rfl,(Wq (Wd 55 60 (by decide) rfl mixed rfl (qM rfl rfl (qG rfl rfl rfl ty26 rfl (Tl rfl) (qA rfl rfl (qS rfl rfl rfl rfl rfl ty26 rfl rfl (Sl rfl) (qA rfl rfl (Nl ⟨by kernel_rfl,?_⟩))))))))⟩)))))))))))))))))))))))
      refine W.ret ⟨.inl rfl,_,mt,(RVs.cons (RV.tmp rfl) (RVs.cons (RV.cellA rfl rfl ty26 rfl (Tk.lit rfl)) (RVs.cons (RV.tmp rfl) RVs.nil))),(by (repeat' (first|exact all_mt|refine all_up ?_ ?_))<;>rfl),?_⟩
      exact ⟨rfl,rfl⟩
end Go.Proofs.YtcidmiacfjdepaaGreatDoor
