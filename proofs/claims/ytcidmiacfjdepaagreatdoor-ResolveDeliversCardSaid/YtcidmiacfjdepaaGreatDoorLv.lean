/-
  Copies of bytes; which port a frame goes to. Frames, as they come in.
-/
import Derived.Test.YtcidmiacfjdepaaGreatDoorJo
import Derived.Test.YtcidmiacfjdepaaGreatDoorCz
import Derived.Test.YtcidmiacfjdepaaGreatDoorMab
import Derived.Test.YtcidmiacfjdepaaGreatDoorQc
namespace Go.Proofs.YtcidmiacfjdepaaGreatDoor
open Go.RowKit
theorem cloneE (A:Option Addr) (cap:Nat):AFn Tryz.prog 33 0 [.base (.slice A 0 cap)] mt (.isl [] 0) mt:=by
  refine AFn.eq Tryz.func33 rfl rfl (Nat.le_of_ble_eq_true rfl) (Wq (qW 0 1 rfl rfl rfl (qA rfl rfl (Nl ?_))))
  cases A with
  | none =>
    refine Wq (Wq (qW 5 7 rfl rfl rfl (qM rfl rfl (Od rfl rfl (LO.eqNilB rfl rfl rfl ty24) (Nl (Wt rfl rfl (Wq (qW 11 12 rfl rfl rfl (qA rfl rfl (Nl (W.nilt (t:=2) rfl (Wz ⟨.inl rfl,_,mt,Rc (Rt rfl) (Rn),all_mt,?_⟩))))))))))))
    exact ⟨rfl,rfl⟩
  | some A =>
    refine Wq (Wq (qW 5 7 rfl rfl rfl (qM rfl rfl (Od rfl rfl (LO.eqNilB rfl rfl rfl ty24) (Nl (Wf rfl rfl (Wk (Wq (qW 16 20 rfl rfl rfl (Od rfl rfl (LO.buildSlice rfl ty24 ty5 (by decide) (by decide) .nil) (Od rfl rfl (LO.moveE rfl rfl) (Od rfl rfl (Lap rfl rfl (Ssi rfl rfl (by first|rfl|assumption)) rfl (Tl rfl) ty24 ty24 ty5 (by decide) (by first|omega|decide|assumption|(simp;done)|(simp;omega)) (by first|omega|decide|assumption|(simp;done)|(simp;omega)) (by first|decide|omega)) (qA rfl rfl (Nl (Wy (t:=2) rfl rfl (Tl rfl) rfl (Wz ⟨.inl rfl,_,mt,Rc (Rt rfl) (Rn),all_mt,?_⟩))))))))))))))))
    exact ⟨rfl,rfl⟩
theorem clone_any (b:List Int) (hl:b.length≤1000000):AFn Tryz.prog 33 0 [.isl (bytesC b) b.length] mt (.isl (bytesC b) b.length) mt:=by
  rcases Nat.eq_zero_or_pos b.length with h|h
  · rw [List.eq_nil_of_length_eq_zero h]
    exact .empty0 cloneE
  · refine AFn.eq Tryz.func33 rfl rfl (Nat.le_of_ble_eq_true rfl) (Wq (qW 0 1 rfl rfl rfl (qA rfl rfl (Nl (Wq (Wq (qW 5 7 rfl rfl rfl (qM rfl rfl (Od rfl rfl (LO.eqNilI rfl rfl rfl h rfl ty24) (Nl (Wf rfl rfl (Wk (Wq (qW 16 20 rfl rfl rfl (Od rfl rfl (LO.buildSlice rfl ty24 ty5 (by decide) (by decide) .nil) (qM rfl rfl (Od rfl rfl (Lap rfl rfl (Ssi rfl rfl (by rw [bytesC_len];omega)) rfl (Tl rfl) ty24 ty24 ty5 (by decide) (by omega) (by omega) (by decide)) (qA rfl rfl (Nl ?_)))))))))))))))))))
    rw [List.nil_append,show 0 + b.length=b.length from Nat.zero_add _]
    refine Wy (t:=2) rfl rfl (bytes_tk rfl) (bytesC_pure _) (Wz ⟨.inl rfl,_,mt,Rc (Rt rfl) (Rn),all_mt,?_⟩)
    exact ⟨rfl,rfl⟩
structure Fr where
  dst:List Int
  src:List Int
  vl:Int
  ty:Int
  data:List Int
def frC (f:Fr):List AV:=bytesC f.dst++bytesC f.src++[.base (.int .i64 f.vl),.base (.int .i64 f.ty),.isl (bytesC f.data) f.data.length]
structure FrOk (f:Fr):Prop where
  d6:f.dst.length=6
  s6:f.src.length=6
  bB:IsB f.data
  bl:f.data.length≤100000
theorem six_of {l:List Int} (h:l.length=6):∃ a b c d e f,l=[a,b,c,d,e,f]:=by
  match l,h with
  | [a,b,c,d,e,f],_=>exact ⟨_,_,_,_,_,_,rfl⟩
theorem dcP_ok (b:List Int) (hB:IsB b):IsB (dcP b).bs∧(U64 (dcP b).s.hi∧U64 (dcP b).s.lo)∧U64 (dcP b).d.hi∧U64 (dcP b).d.lo:=by
  unfold dcP
  split
  · exact ⟨(hB.drop _).take _,fb_bd _,fb_bd _⟩
  · exact ⟨(hB.drop _).take _,fb_bd _,fb_bd _⟩
theorem decR_len6 (p:Pk):(decR p).1.ln.length=6:=by
  have hz:zNb.ln.length=6:=rfl
  unfold decR
  split
  · exact hz
  · unfold rdB
    split
    · exact hz
    · split
      · exact hz
      · split
        · exact hz
        · rename_i r hr
          split
          · exact hz
          · exact optF_len _ _ _ _ _ (show zMac.length=6 from rfl) r hr
def zA:Ad:=⟨false,0,0⟩
def asksF (f:Fr):Ad × Bool :=
  if f.ty == 2054 && decide (f.dst=bcM) then (if arpE f.data=0 then ((arpOf f.data).tt,true) else (zA,false))
  else if f.ty == 34525 && grpE f.dst then
    (if dcE f.data=0 then (if (decR (dcP f.data)).2=0∧(decR (dcP f.data)).1.k=135 then ((decR (dcP f.data)).1.tg,true) else (zA,false)) else (zA,false))
  else (zA,false)
def asksV (a:Ad × Bool):AV:=.tup [.agg (adC a.1),.base (.bool a.2)]
set_option maxHeartbeats 2000000 in
theorem asks_any (f:Fr) (hf:FrOk f):AFn Tryz.prog 8 0 [.agg (frC f)] mt (asksV (asksF f)) mt:=by
  refine AFn.eq Tryz.func8 rfl rfl (Nat.le_of_ble_eq_true rfl) ?_
  obtain ⟨h1,h2,hB,hl⟩:=hf
  have hgr:=grpE_any f.dst h1
  have harp:=arp_any f.data hB
  have hpd:=pdec_any f.data hB (by omega)
  obtain ⟨q1,q2,q3⟩:=dcP_ok f.data hB
  have hnd:=dec_any (dcP f.data) q1 q2.1 q2.2 q3.1 q3.2
  have hln:=decR_len6 (dcP f.data)
  unfold asksF
  obtain ⟨dst,src,vl,ty,data⟩:=f
  dsimp only at *
  obtain ⟨d0,d1,d2,d3,d4,d5,rfl⟩:=six_of h1
  obtain ⟨s0,s1,s2,s3,s4,s5,rfl⟩:=six_of h2
  obtain ⟨n,hn⟩:∃ n,data.length=n:=⟨_,rfl⟩
  have hfm:arpE data=0→(arpOf data).fm.length=6∧(arpOf data).tm.length=6:=fun h=>by
    have:28≤data.length:=by
      rcases Nat.lt_or_ge data.length 28 with h3|h3
      · unfold arpE at h;rw [if_pos h3] at h;cases h
      · exact h3
    unfold arpOf
    constructor
    · show ((data.drop 8).take 6).length=6
      rw [List.length_take,List.length_drop];omega
    · show ((data.drop 18).take 6).length=6
      rw [List.length_take,List.length_drop];omega
  unfold arpR at harp
  generalize arpOf data=A at *
  generalize arpE data=ae at *
  generalize dcP data=P at *
  generalize dcE data=pe at *
  unfold decV at hnd
  generalize decR P=N at *
  obtain ⟨N,ne⟩:=N
  dsimp only at *
  refine Wq (qW 0 3 rfl rfl rfl (qC rfl rfl rfl (qB rfl ty42 (qA rfl rfl (Nl (Wq (Wb ?_)))))))
  by_cases hb1:(ty == 2054)=true∧decide (([d0,d1,d2,d3,d4,d5]:List Int)=bcM)=true
  case' pos =>
    obtain ⟨k1,k2⟩:=hb1
    have ek:(ty == 2054 && decide (([d0,d1,d2,d3,d4,d5]:List Int)=bcM))=true:=by rw [k1,k2];rfl
    rw [if_pos ek]
    refine Wq (Wd 7 17 (by decide) rfl mixed rfl (qF rfl rfl ty26 rfl rfl (qL rfl rfl rfl rfl ty3 rfl (qE rfl rfl rfl (qM rfl rfl (Gd rfl rfl rfl ‹_› rfl (Fa rfl rfl ty26 rfl (by decide)) (Gd rfl rfl rfl ‹_› rfl (La rfl rfl rfl ty23 rfl (Tl rfl)) (Gd rfl rfl rfl ‹_› rfl (C0 (fr:=[]) rfl rfl (bcE_any) fok23 .nil rfl) (Gd rfl rfl rfl ‹_› rfl (LO.eql_mac [d0,d1,d2,d3,d4,d5] bcM rfl rfl rfl rfl rfl) (qT rfl rfl ‹_› rfl (qA rfl rfl (Nl ⟨by kernel_rfl,(Wt rfl ‹_› ?_)⟩))))))))))))
    by_cases he:ae=0
    case' pos =>
      have k3:(ae == 0)=true:=by simpa using he
      obtain ⟨l1,l2⟩:=hfm he
      rw [if_pos he] at harp ⊢
      obtain ⟨op,fm,fr,tm,tt⟩:=A
      dsimp only at l1 l2
      obtain ⟨m0,m1,m2,m3,m4,m5,rfl⟩:=six_of l1
      obtain ⟨n0,n1,n2,n3,n4,n5,rfl⟩:=six_of l2
      refine Wq (qW 21 30 rfl rfl rfl (qF rfl rfl ty26 rfl rfl (qL rfl rfl rfl rfl ty24 rfl (Od rfl rfl (C0 (fr:=[]) rfl rfl (harp) fok24 (.cons rfl (.pure rfl) .nil) rfl) (qM rfl rfl (qX rfl rfl rfl (qX rfl rfl rfl (qB rfl ty64 (qS rfl rfl rfl rfl rfl ty64 rfl rfl (Sl rfl) (qA rfl rfl (Nl (Wq (qW 34 36 rfl rfl rfl (qM rfl rfl (qE rfl rfl rfl (Nl (Wt rfl ‹_› (Wq (qW 40 44 rfl rfl rfl (qF rfl rfl ty64 rfl rfl (qG rfl rfl rfl ty42 rfl (Tl rfl) (qS rfl rfl rfl rfl rfl ty42 rfl rfl (Sl rfl) (qA rfl rfl (Nl ?_))))))))))))))))))))))))
      refine W.ret ⟨.inl rfl,_,mt,(RVs.cons (RV.cellA rfl rfl ty42 rfl (Tk.lit rfl)) (RVs.cons (RV.tmp rfl) RVs.nil)),(by (repeat' (first|exact all_mt|refine all_up ?_ ?_))<;>rfl),?_⟩
      exact ⟨rfl,rfl⟩
    case' neg =>
      have k3:(ae == 0)=false:=by simpa using he
      rw [if_neg he] at harp ⊢
      refine Wq (qW 21 30 rfl rfl rfl (qF rfl rfl ty26 rfl rfl (qL rfl rfl rfl rfl ty24 rfl (Od rfl rfl (C0 (fr:=[]) rfl rfl (harp) fok24 (.cons rfl (.pure rfl) .nil) rfl) (qM rfl rfl (qX rfl rfl rfl (qX rfl rfl rfl (qB rfl ty64 (qS rfl rfl rfl rfl rfl ty64 rfl rfl (Sl rfl) (qA rfl rfl (Nl (Wq (qW 34 36 rfl rfl rfl (qM rfl rfl (qE rfl rfl rfl (Nl (Wf rfl ‹_› (Wk (Wq (qW 111 114 rfl rfl rfl (Od rfl rfl (Bs rfl ty42 .nil) (qS rfl rfl rfl rfl rfl ty42 rfl rfl (Sl rfl) (qA rfl rfl (Nl ?_))))))))))))))))))))))))
      refine W.ret ⟨.inl rfl,_,mt,(RVs.cons (RV.cellA rfl rfl ty42 rfl (Tk.lit rfl)) (RVs.cons (RV.tmp rfl) RVs.nil)),(by (repeat' (first|exact all_mt|refine all_up ?_ ?_))<;>rfl),?_⟩
      exact ⟨rfl,rfl⟩
  case' neg =>
    have ek:(ty == 2054 && decide (([d0,d1,d2,d3,d4,d5]:List Int)=bcM))=false:=by
      rw [Bool.and_eq_false_iff]
      rcases Decidable.not_and_iff_or_not.1 hb1 with h|h
      · exact .inl (by simpa using h)
      · exact .inr (by simpa using h)
    rw [if_neg (by rw [ek];decide)]
    cases k1:(ty == 2054)
    case' true =>
      have k2:decide (([d0,d1,d2,d3,d4,d5]:List Int)=bcM)=false:=by rw [k1] at ek;exact ek
      refine Wq (Wd 7 17 (by decide) rfl mixed rfl (qF rfl rfl ty26 rfl rfl (qL rfl rfl rfl rfl ty3 rfl (qE rfl rfl rfl (qM rfl rfl (Gd rfl rfl rfl ‹_› rfl (Fa rfl rfl ty26 rfl (by decide)) (Gd rfl rfl rfl ‹_› rfl (La rfl rfl rfl ty23 rfl (Tl rfl)) (Gd rfl rfl rfl ‹_› rfl (C0 (fr:=[]) rfl rfl (bcE_any) fok23 .nil rfl) (Gd rfl rfl rfl ‹_› rfl (LO.eql_mac [d0,d1,d2,d3,d4,d5] bcM rfl rfl rfl rfl rfl) (qT rfl rfl ‹_› rfl (qA rfl rfl (Nl ⟨by kernel_rfl,(Wf rfl ‹_› ?_)⟩))))))))))))
    case' false =>
      refine Wq (Wd 7 17 (by decide) rfl mixed rfl (qF rfl rfl ty26 rfl rfl (qL rfl rfl rfl rfl ty3 rfl (qE rfl rfl rfl (qM rfl rfl (Sd rfl rfl rfl ‹_› rfl (Sd rfl rfl rfl ‹_› rfl (Sd rfl rfl rfl ‹_› rfl (Sd rfl rfl rfl ‹_› rfl (qP rfl rfl ‹_› rfl (qA rfl rfl (Nl ⟨by kernel_rfl,(Wf rfl rfl ?_)⟩))))))))))))
    all_goals
      clear ek hb1
      obtain ⟨g,hg⟩:∃ g,grpE [d0,d1,d2,d3,d4,d5]=g:=⟨_,rfl⟩
      rw [hg] at hgr ⊢
      cases k3:(ty == 34525)
      case' false =>
        rw [if_neg (by simp)]
        repeat (refine W.seq ?_)
        refine qW 48 57 rfl rfl rfl (qF rfl rfl ty26 rfl rfl (qL rfl rfl rfl rfl ty3 rfl (qE rfl rfl rfl (qM rfl rfl (Sd rfl rfl rfl ‹_› rfl (Sd rfl rfl rfl ‹_› rfl (Sd rfl rfl rfl ‹_› rfl (qP rfl rfl ‹_› rfl (qA rfl rfl (Nl (Wf rfl rfl (Wk ?_))))))))))))
        repeat (refine W.seq ?_)
        refine qW 111 114 rfl rfl rfl (Od rfl rfl (Bs rfl ty42 .nil) (qS rfl rfl rfl rfl rfl ty42 rfl rfl (Sl rfl) (qA rfl rfl (Nl ?_))))
        refine W.ret ⟨.inl rfl,_,mt,(RVs.cons (RV.cellA rfl rfl ty42 rfl (Tk.lit rfl)) (RVs.cons (RV.tmp rfl) RVs.nil)),(by (repeat' (first|exact all_mt|refine all_up ?_ ?_))<;>rfl),?_⟩
        exact ⟨rfl,rfl⟩
      case' true =>
        cases g
        case' false =>
          rw [if_neg (by decide)]
          repeat (refine W.seq ?_)
          refine qW 48 57 rfl rfl rfl (qF rfl rfl ty26 rfl rfl (qL rfl rfl rfl rfl ty3 rfl (qE rfl rfl rfl (qM rfl rfl (Gd rfl rfl rfl ‹_› rfl (Fa rfl rfl ty26 rfl (by decide)) (Gd rfl rfl rfl ‹_› rfl (La rfl rfl rfl ty23 rfl (Tl rfl)) (Gd rfl rfl rfl ‹_› rfl (C0 (fr:=[]) rfl rfl (hgr) fok25 (.cons rfl (.pure rfl) .nil) rfl) (qT rfl rfl ‹_› rfl (qA rfl rfl (Nl (Wf rfl rfl (Wk ?_))))))))))))
          repeat (refine W.seq ?_)
          refine qW 111 114 rfl rfl rfl (Od rfl rfl (Bs rfl ty42 .nil) (qS rfl rfl rfl rfl rfl ty42 rfl rfl (Sl rfl) (qA rfl rfl (Nl ?_))))
          refine W.ret ⟨.inl rfl,_,mt,(RVs.cons (RV.cellA rfl rfl ty42 rfl (Tk.lit rfl)) (RVs.cons (RV.tmp rfl) RVs.nil)),(by (repeat' (first|exact all_mt|refine all_up ?_ ?_))<;>rfl),?_⟩
          exact ⟨rfl,rfl⟩
        case' true =>
          rw [if_pos (by decide)]
          repeat (refine W.seq ?_)
          refine qW 48 57 rfl rfl rfl (qF rfl rfl ty26 rfl rfl (qL rfl rfl rfl rfl ty3 rfl (qE rfl rfl rfl (qM rfl rfl (Gd rfl rfl rfl ‹_› rfl (Fa rfl rfl ty26 rfl (by decide)) (Gd rfl rfl rfl ‹_› rfl (La rfl rfl rfl ty23 rfl (Tl rfl)) (Gd rfl rfl rfl ‹_› rfl (C0 (fr:=[]) rfl rfl (hgr) fok25 (.cons rfl (.pure rfl) .nil) rfl) (qT rfl rfl ‹_› rfl (qA rfl rfl (Nl (Wt rfl rfl ?_)))))))))))
          by_cases he:pe=0
          case' neg =>
            have k4:(pe != 0)=true:=by simpa using he
            rw [if_neg he,rdV_bad he] at *
            repeat (refine W.seq ?_)
            refine qW 61 70 rfl rfl rfl (qF rfl rfl ty26 rfl rfl (qL rfl rfl rfl rfl ty24 rfl (Od rfl rfl (C0 (fr:=[]) rfl rfl (hpd) fok26 (.cons rfl (.pure rfl) .nil) rfl) (qM rfl rfl (qX rfl rfl rfl (qX rfl rfl rfl (qB rfl ty74 (qS rfl rfl rfl rfl rfl ty74 rfl rfl (Sl rfl) (qA rfl rfl (Nl ?_))))))))))
            repeat (refine W.seq ?_)
            refine qW 74 76 rfl rfl rfl (qM rfl rfl (qN rfl rfl rfl (Nl (Wt rfl ‹_› (Wx ?_)))))
            repeat (refine W.seq ?_)
            refine qW 111 114 rfl rfl rfl (Od rfl rfl (Bs rfl ty42 .nil) (qS rfl rfl rfl rfl rfl ty42 rfl rfl (Sl rfl) (qA rfl rfl (Nl ?_))))
            refine W.ret ⟨.inl rfl,_,mt,(RVs.cons (RV.cellA rfl rfl ty42 rfl (Tk.lit rfl)) (RVs.cons (RV.tmp rfl) RVs.nil)),(by (repeat' (first|exact all_mt|refine all_up ?_ ?_))<;>rfl),?_⟩
            exact ⟨rfl,rfl⟩
          case' pos =>
            subst he
            rw [if_pos rfl]
            rw [rdV_ok] at hpd
            repeat (refine W.seq ?_)
            refine qW 61 70 rfl rfl rfl (qF rfl rfl ty26 rfl rfl (qL rfl rfl rfl rfl ty24 rfl (Od rfl rfl (C0 (fr:=[]) rfl rfl (hpd) fok26 (.cons rfl (.pure rfl) .nil) rfl) (qM rfl rfl (qX rfl rfl rfl (qX rfl rfl rfl (qB rfl ty74 (qS rfl rfl rfl rfl rfl ty74 rfl rfl (Sl rfl) (qA rfl rfl (Nl ?_))))))))))
            repeat (refine W.seq ?_)
            refine qW 74 76 rfl rfl rfl (qM rfl rfl (qN rfl rfl rfl (Nl (Wf rfl (rfl) (Wk ?_)))))
            repeat (refine W.seq ?_)
            refine qW 80 88 rfl rfl rfl (qG rfl rfl rfl ty74 rfl (Tl rfl) ?_)
            obtain ⟨k,fl,tg,has,ln⟩:=N
            dsimp only at hln hnd ⊢
            obtain ⟨e0,e1,e2,e3,e4,e5,rfl⟩:=six_of hln
            refine Od rfl rfl (C0 (fr:=[]) rfl rfl (hnd) fok27 (.cons rfl (.pure rfl) .nil) rfl) (qM rfl rfl (qX rfl rfl rfl (qX rfl rfl rfl (qB rfl ty78 (qS rfl rfl rfl rfl rfl ty78 rfl rfl (Sl rfl) (qA rfl rfl (Nl ?_)))))))
            cases k5:(ne == 0)
            case' false =>
              have hc:¬ (ne=0∧k=135):=fun h=>by rw [h.1] at k5;cases k5
              rw [if_neg hc]
              repeat (refine W.seq ?_)
              refine qW 92 99 rfl rfl rfl (qM rfl rfl (qE rfl rfl rfl (qM rfl rfl (Sd rfl rfl rfl ‹_› rfl (Sd rfl rfl rfl ‹_› rfl (Sd rfl rfl rfl ‹_› rfl (qP rfl rfl ‹_› rfl (Nl (Wf rfl rfl (Wk ?_))))))))))
              repeat (refine W.seq ?_)
              refine qW 111 114 rfl rfl rfl (Od rfl rfl (Bs rfl ty42 .nil) (qS rfl rfl rfl rfl rfl ty42 rfl rfl (Sl rfl) (qA rfl rfl (Nl ?_))))
              refine W.ret ⟨.inl rfl,_,mt,(RVs.cons (RV.cellA rfl rfl ty42 rfl (Tk.lit rfl)) (RVs.cons (RV.tmp rfl) RVs.nil)),(by (repeat' (first|exact all_mt|refine all_up ?_ ?_))<;>rfl),?_⟩
              exact ⟨rfl,rfl⟩
            case' true =>
              have k5':ne=0:=by simpa using k5
              cases k6:(k == 135)
              case' false =>
                have hc:¬ (ne=0∧k=135):=fun h=>by rw [h.2] at k6;cases k6
                rw [if_neg hc]
                repeat (refine W.seq ?_)
                refine qW 92 99 rfl rfl rfl (qM rfl rfl (qE rfl rfl rfl (qM rfl rfl (Gd rfl rfl rfl ‹_› rfl (Fa rfl rfl ty78 rfl (by decide)) (Gd rfl rfl rfl ‹_› rfl (Ld rfl rfl rfl rfl ty3 rfl) (Gd rfl rfl rfl ‹_› rfl (Eq0 rfl rfl rfl) (qT rfl rfl ‹_› rfl (Nl (Wf rfl ‹_› (Wk ?_))))))))))
                repeat (refine W.seq ?_)
                refine qW 111 114 rfl rfl rfl (Od rfl rfl (Bs rfl ty42 .nil) (qS rfl rfl rfl rfl rfl ty42 rfl rfl (Sl rfl) (qA rfl rfl (Nl ?_))))
                refine W.ret ⟨.inl rfl,_,mt,(RVs.cons (RV.cellA rfl rfl ty42 rfl (Tk.lit rfl)) (RVs.cons (RV.tmp rfl) RVs.nil)),(by (repeat' (first|exact all_mt|refine all_up ?_ ?_))<;>rfl),?_⟩
                exact ⟨rfl,rfl⟩
              case' true =>
                have k6':k=135:=by simpa using k6
                rw [if_pos ⟨k5',k6'⟩]
                repeat (refine W.seq ?_)
                refine qW 92 99 rfl rfl rfl (qM rfl rfl (qE rfl rfl rfl (qM rfl rfl (Gd rfl rfl rfl ‹_› rfl (Fa rfl rfl ty78 rfl (by decide)) (Gd rfl rfl rfl ‹_› rfl (Ld rfl rfl rfl rfl ty3 rfl) (Gd rfl rfl rfl ‹_› rfl (Eq0 rfl rfl rfl) (qT rfl rfl ‹_› rfl (Nl (Wt rfl ‹_› ?_)))))))))
                repeat (refine W.seq ?_)
                refine qW 103 107 rfl rfl rfl (qF rfl rfl ty78 rfl rfl (qG rfl rfl rfl ty42 rfl (Tl rfl) (qS rfl rfl rfl rfl rfl ty42 rfl rfl (Sl rfl) (qA rfl rfl (Nl ?_)))))
                refine W.ret ⟨.inl rfl,_,mt,(RVs.cons (RV.cellA rfl rfl ty42 rfl (Tk.lit rfl)) (RVs.cons (RV.tmp rfl) RVs.nil)),(by (repeat' (first|exact all_mt|refine all_up ?_ ?_))<;>rfl),?_⟩
                exact ⟨rfl,rfl⟩
end Go.Proofs.YtcidmiacfjdepaaGreatDoor
namespace Go.Proofs.YtcidmiacfjdepaaGreatDoor
open Go.ChangeShapes Go.WideShapes Go.ChangeAt Go.RowKit
section
variable {H:Type} {enc:TypeId × Value→H}
theorem opBytes:Opens enc Tryz.prog 24 (fun (l:List Int)=>[.isl (bytesC l) l.length]) (fun l=>IsB l) :=
  (Opens.slice (n:=1) Tryz.underlying24 opU8 (by kernel_rfl) (by decide) (fun _ _=>rfl)).map id (fun l _=>by unfold bytesC;rw [List.map_eq_flatMap];rfl) (fun l h=>h.2)
theorem opFr:Opens enc Tryz.prog 26 frC (fun f=>f.dst.length=6∧f.src.length=6∧IsB f.dst∧IsB f.src∧IsB f.data) :=
  (Opens.struct (fs:=[_,_,_,_,_]) (total:=15) Tryz.underlying26 (by kernel_rfl) (OpensFs.cons (n:=6) opMac rfl (by kernel_rfl) (OpensFs.cons (n:=6) opMac rfl (by kernel_rfl) (OpensFs.cons (n:=1) opInt rfl (by kernel_rfl) (OpensFs.cons (n:=1) opInt rfl (by kernel_rfl) (OpensFs.cons (n:=1) opBytes rfl (by kernel_rfl) (OpensFs.nil rfl))))))).map
    (fun z=>(⟨z.1,z.2.1,z.2.2.1,z.2.2.2.1,z.2.2.2.2.1⟩:Fr)) (fun z _=>by simp [frC]) (fun _ h=>⟨h.1.1,h.2.1.1,h.1.2,h.2.1.2,h.2.2.2.2.1⟩)
end
end Go.Proofs.YtcidmiacfjdepaaGreatDoor
