/-
  Reading a packet without V6 and with V6: the program.
-/
import Derived.Test.YtcidmiacfjdepaaGreatDoorCz
import Derived.Test.YtcidmiacfjdepaaGreatDoorMab
namespace Go.Proofs.YtcidmiacfjdepaaGreatDoor
open Go.RowKit
theorem u8_and15 {x:Int} (hx:0≤x∧x≤255):bitV .and .u8 x 15=x % 16:=by
  obtain ⟨a,rfl⟩:=Int.eq_ofNat_of_zero_le hx.1
  have ha:a < 256:=by omega
  have e1:(BitVec.ofInt 8 (a:Int)).toNat=a:=by rw [BitVec.ofInt_natCast,BitVec.toNat_ofNat];exact Nat.mod_eq_of_lt ha
  show IntKind.u8.wrap ((BitVec.ofInt 8 (a:Int) &&& BitVec.ofInt 8 ((15:Nat):Int)).toNat:Int)=_
  rw [BitVec.toNat_and,e1,show (BitVec.ofInt 8 ((15:Nat):Int)).toNat=2 ^ 4 - 1 from by decide,Nat.and_two_pow_sub_one_eq_mod,IntKind.wrap_u8']
  omega
theorem i64_and14 {x:Int} (hx:0≤x∧x≤65535):bitV .and .i64 x 16383=x % 16384:=by
  obtain ⟨a,rfl⟩:=Int.eq_ofNat_of_zero_le hx.1
  have ha:a < 65536:=by omega
  have e1:(BitVec.ofInt 64 (a:Int)).toNat=a:=by rw [BitVec.ofInt_natCast,BitVec.toNat_ofNat];exact Nat.mod_eq_of_lt (by omega)
  show IntKind.i64.wrap ((BitVec.ofInt 64 (a:Int) &&& BitVec.ofInt 64 ((16383:Nat):Int)).toNat:Int)=_
  rw [BitVec.toNat_and,e1,show (BitVec.ofInt 64 ((16383:Nat):Int)).toNat=2 ^ 14 - 1 from by decide,Nat.and_two_pow_sub_one_eq_mod,IntWalk.i64_in _ (by omega)]
  omega
def fbA (v6:Bool) (l:List Int):Ad:=⟨v6,(fb l).1,(fb l).2⟩
def p4 (b:List Int):Pk:=⟨fbA false ((b.drop 12).take 4),fbA false ((b.drop 16).take 4),gB b 9,gB b 8,(b.drop (hd4 b).toNat).take ((wh4 b).toNat - (hd4 b).toNat)⟩
def wh6 (b:List Int):Int:=gB b 4 * 256 + gB b 5
def p6 (b:List Int):Pk:=⟨fbA true ((b.drop 8).take 16),fbA true ((b.drop 24).take 16),gB b 6,gB b 7,(b.drop 40).take (wh6 b).toNat⟩
def rdV (p:Pk) (e:Int):AV:=.tup [.agg (pkC (if e=0 then p else zPk)),.base (.int .i64 e)]
theorem rdV_bad {p:Pk} {e:Int} (h:e≠0):rdV p e=.tup [.agg (pkC zPk),.base (.int .i64 e)]:=by unfold rdV;rw [if_neg h]
theorem rdV_ok (p:Pk):rdV p 0=.tup [.agg (pkC p),.base (.int .i64 0)]:=rfl
theorem gB_drop (b:List Int) (k i:Nat):gB (b.drop k) i=gB b (k + i):=by simp [gB,List.getD_eq_getElem?_getD]
def c4 (b:List Int):Int:=code4 b.length b
def c6 (b:List Int):Int:=code6 b.length b
theorem c4_cases (b:List Int):(b.length < 20∧c4 b=4)∨(20≤b.length∧hd4 b < 20∧c4 b=5)∨(20≤b.length∧20≤hd4 b∧wh4 b < hd4 b∧c4 b=5)∨(20≤b.length∧20≤hd4 b∧hd4 b≤wh4 b∧(b.length:Int) < wh4 b∧c4 b=4) ∨
    ((20≤b.length∧20≤hd4 b∧hd4 b≤wh4 b∧wh4 b≤(b.length:Int))∧((sumL (b.take (hd4 b).toNat) != 0)=true∧c4 b=6∨(sumL (b.take (hd4 b).toNat) != 0)=false∧(((gB b 6 * 256 + gB b 7) % 16384 != 0)=true∧c4 b=5∨((gB b 6 * 256 + gB b 7) % 16384 != 0)=false∧c4 b=0))):=by
  unfold c4 code4
  by_cases c1:b.length < 20
  · rw [if_pos c1];exact .inl ⟨c1,rfl⟩
  rw [if_neg c1]
  by_cases c2:hd4 b < 20
  · rw [if_pos (.inl c2)];exact .inr (.inl ⟨by omega,c2,rfl⟩)
  by_cases c3:wh4 b < hd4 b
  · rw [if_pos (.inr c3)];exact .inr (.inr (.inl ⟨by omega,by omega,c3,rfl⟩))
  rw [if_neg (by omega)]
  by_cases c4:(b.length:Int) < wh4 b
  · rw [if_pos c4];exact .inr (.inr (.inr (.inl ⟨by omega,by omega,by omega,c4,rfl⟩)))
  rw [if_neg c4]
  refine .inr (.inr (.inr (.inr ⟨⟨by omega,by omega,by omega,by omega⟩,?_⟩)))
  by_cases c5:sumL (b.take (hd4 b).toNat)=0
  · rw [if_neg (by simpa using c5)]
    refine .inr ⟨by simpa using c5,?_⟩
    by_cases c6:(gB b 6 * 256 + gB b 7) % 16384=0
    · rw [if_neg (by simpa using c6)];exact .inr ⟨by simpa using c6,rfl⟩
    · rw [if_pos c6];exact .inl ⟨by simpa using c6,rfl⟩
  · rw [if_pos c5];exact .inl ⟨by simpa using c5,rfl⟩
theorem ends_any (l:List Int) (n:Nat) (hB:IsB l) (hn:n=4∨n=16) (hl:l.length=n + n):AFn Tryz.prog 90 0 [.isl (bytesC l) l.length] mt (.tup [.agg (adC (fbA (n == 16) (l.take n))),.agg (adC (fbA (n == 16) (l.drop n)))]) mt:=by
  refine AFn.eq Tryz.func90 rfl rfl (Nat.le_of_ble_eq_true rfl) ?_
  have hlt:(l.take n).length=n:=by rw [List.length_take];exact Nat.min_eq_left (by omega)
  have hld:(l.drop n).length=n:=by rw [List.length_drop];omega
  have h1:=from_any (l.take n) (hB.take n) (by rw [hlt];exact hn)
  have h2:=from_any (l.drop n) (hB.drop n) (by rw [hld];exact hn)
  rw [hlt] at h1
  rw [hld] at h2
  rw [hl]
  have hT2:Tk (bytesC l) (n * 1) ((n + n - n) * 1) (bytesC (l.drop n)):=by_drop hl
  have hq2:((n + n:Nat):Int) / 2=(n:Int):=by omega
  unfold adC at h1 h2
  rcases hn with rfl|rfl
  all_goals
    repeat (refine W.seq ?_)
    refine qW 0 2 rfl rfl rfl (qB rfl ty42 (qB rfl ty42 (Nl ?_)))
    repeat (refine W.seq ?_)
    refine qW 6 10 rfl rfl rfl (qM rfl rfl (qH rfl rfl rfl ty24 (Od rfl rfl (LO.quo_in rfl rfl rfl (by first|omega|decide|assumption|(simp;done)|(simp;omega)) (by first|omega|decide|assumption|(simp;done)|(simp;omega)) (by (first|exact IntWalk.i64_in _ (by omega)|assumption))) (qA rfl rfl (Nl ?_)))))
    repeat (refine W.seq ?_)
    refine qW 14 22 rfl rfl rfl (qM rfl rfl (qM rfl rfl (Od rfl rfl (Lsi rfl rfl rfl Bnd.no (Ba rfl hq2) (by first|omega|decide|assumption|(simp;done)|(simp;omega)) (by first|omega|decide|assumption|(simp;done)|(simp;omega)) ty24 ty5 (by_take (by omega))) (Od rfl rfl (C0 (fr:=[]) rfl rfl (h1) fok53 (.cons rfl (.pure rfl) .nil) rfl) (qM rfl rfl (qX rfl rfl rfl (qX rfl rfl rfl (qS rfl rfl rfl rfl rfl ty42 rfl rfl (Sl rfl) (Nl ?_)))))))))
    repeat (refine W.seq ?_)
    refine qW 26 34 rfl rfl rfl (qM rfl rfl (qM rfl rfl (Od rfl rfl (Lsi rfl rfl rfl (Ba rfl rfl) Bnd.no (by first|omega|decide|assumption|(simp;done)|(simp;omega)) (by first|omega|decide|assumption|(simp;done)|(simp;omega)) ty24 ty5 hT2) (Od rfl rfl (C0 (fr:=[]) rfl rfl (h2) fok53 (.cons rfl (.pure rfl) .nil) rfl) (qM rfl rfl (qX rfl rfl rfl (qX rfl rfl rfl (qS rfl rfl rfl rfl rfl ty42 rfl rfl (Sl rfl) (Nl ?_)))))))))
    repeat (refine W.seq ?_)
    refine Wd 38 42 (by decide) rfl mixed rfl (qG rfl rfl rfl ty42 rfl (Tl rfl) (qG rfl rfl rfl ty42 rfl (Tl rfl) (qS rfl rfl rfl rfl rfl ty42 rfl rfl (Sl rfl) (qS rfl rfl rfl rfl rfl ty42 rfl rfl (Sl rfl) (Nl ⟨by kernel_rfl,?_⟩)))))
    refine W.ret ⟨.inl rfl,_,mt,(RVs.cons (RV.cellA rfl rfl ty42 rfl (Tk.lit rfl)) (RVs.cons (RV.cellA rfl rfl ty42 rfl (Tk.lit rfl)) RVs.nil)),(by (repeat' (first|exact all_mt|refine all_up ?_ ?_))<;>rfl),?_⟩
    exact ⟨rfl,rfl⟩
set_option maxHeartbeats 4000000 in
theorem four_any (b:List Int) (hB:IsB b) (hl:b.length≤1000000):AFn Tryz.prog 56 0 [.isl (bytesC b) b.length] mt (rdV (p4 b) (c4 b)) mt:=by
  refine AFn.eq Tryz.func56 rfl rfl (Nat.le_of_ble_eq_true rfl) ?_
  rcases c4_cases b with ⟨k1,hc⟩|hrest
  · have g1:decide ((b.length:Int) < 20)=true:=decide_eq_true (by omega)
    rw [hc,rdV_bad (by decide)]
    refine Wq (qW 0 2 rfl rfl rfl (qB rfl ty74 (qA rfl rfl (Nl (Wq (Wq (qW 6 9 rfl rfl rfl (qM rfl rfl (qH rfl rfl rfl ty24 (qK rfl rfl rfl (Nl (Wt rfl ‹_› (Wq (qW 13 16 rfl rfl rfl (Od rfl rfl (Bs rfl ty74 .nil) (qS rfl rfl rfl rfl rfl ty74 rfl rfl (Sl rfl) (qA rfl rfl (Nl (W.nilc (q:=0) (j:=8) rfl rfl (Sl rfl) ?_)))))))))))))))))))
    refine W.ret ⟨.inl rfl,_,mt,(RVs.cons (RV.cellA rfl rfl ty74 rfl (Tk.lit rfl)) (RVs.cons (RV.tmp rfl) RVs.nil)),(by (repeat' (first|exact all_mt|refine all_up ?_ ?_))<;>rfl),?_⟩
    exact ⟨rfl,rfl⟩
  have h20:20≤b.length:=by
    rcases hrest with h|h|h|h
    · exact h.1
    · exact h.1
    · exact h.1
    · exact h.1.1
  have g1:decide ((b.length:Int) < 20)=false:=decide_eq_false (by omega)
  have b0:=hB.at 0
  have b2:=hB.at 2
  have b3:=hB.at 3
  have b6:=hB.at 6
  have b7:=hB.at 7
  have b8:=hB.at 8
  have b9:=hB.at 9
  have hand:=u8_and15 b0
  have hat0:=by_at (l:=b) (k:=0) (by omega)
  have hat8:=by_at (l:=b) (k:=8) (by omega)
  have hat9:=by_at (l:=b) (k:=9) (by omega)
  have hg2:=get_any (b.drop 2) (hB.drop 2) (by rw [List.length_drop];omega)
  rw [gB_drop,gB_drop,List.length_drop] at hg2
  have hw0:gB b (2 + 0) * 256 + gB b (2 + 1)=wh4 b:=rfl
  rw [hw0] at hg2
  have hh0:gB b 0 % 16 * 4=hd4 b:=rfl
  have hwb:0≤wh4 b∧wh4 b≤65535:=by unfold wh4;omega
  have hhb:0≤hd4 b∧hd4 b≤60:=by unfold hd4;omega
  have hg6:=get_any (b.drop 6) (hB.drop 6) (by rw [List.length_drop];omega)
  rw [gB_drop,gB_drop,List.length_drop] at hg6
  obtain ⟨fr,hfr⟩:∃ fr,gB b (6 + 0) * 256 + gB b (6 + 1)=fr:=⟨_,rfl⟩
  have hfr2:gB b 6 * 256 + gB b 7=fr:=hfr
  rw [hfr] at hg6
  have hfb:0≤fr∧fr≤65535:=by omega
  rw [hfr2] at hrest
  have hmask:=i64_and14 hfb
  obtain ⟨h,hhn⟩:∃ h:Nat,hd4 b=(h:Int):=⟨(hd4 b).toNat,by omega⟩
  obtain ⟨w,hwn⟩:∃ w:Nat,wh4 b=(w:Int):=⟨(wh4 b).toNat,by omega⟩
  rw [hwn] at hg2
  have hp4:p4 b=⟨fbA false ((b.drop 12).take 4),fbA false ((b.drop 16).take 4),gB b 9,gB b 8,(b.drop h).take (w - h)⟩:=by unfold p4;rw [hhn,hwn];rfl
  rw [hhn,hwn] at hrest
  refine Wq (qW 0 2 rfl rfl rfl (qB rfl ty74 (qA rfl rfl (Nl (Wq (Wq (qW 6 9 rfl rfl rfl (qM rfl rfl (qH rfl rfl rfl ty24 (qK rfl rfl rfl (Nl (Wf rfl ‹_› (Wk (Wq (Wd 20 31 (by decide) rfl mixed rfl (qM rfl rfl (qJ rfl rfl rfl rfl rfl ty24 ty5 (by first|omega|decide|assumption|(simp;done)|(simp;omega)) (Od rfl rfl (Li rfl rfl hat0 ty5 rfl) (Od rfl rfl (LO.and rfl rfl rfl) ?_)))))))))))))))))))
  rw [hand]
  refine Od rfl rfl (Ci rfl rfl ty5 ty3 (by (first|exact IntWalk.i64_in _ (by omega)|assumption))) (Od rfl rfl (LO.mul_in rfl rfl rfl (by (first|exact IntWalk.i64_in _ (by omega)|assumption))) ?_)
  rw [hh0,hhn]
  refine qM rfl rfl (Od rfl rfl (Lsi rfl rfl rfl (Ba rfl rfl) Bnd.no (by first|omega|decide|assumption|(simp;done)|(simp;omega)) (by first|omega|decide|assumption|(simp;done)|(simp;omega)) ty24 ty5 (by_drop (l:=b) (k:=2) rfl)) (Od rfl rfl (C0 (fr:=[]) rfl rfl (hg2) fok88 (.cons rfl (.pure rfl) .nil) rfl) (qA rfl rfl (qA rfl rfl (Nl ⟨by kernel_rfl,(Wq (Wb ?_))⟩)))))
  rcases hrest with ⟨_,k1,hc⟩|⟨_,k1,k2,hc⟩|⟨_,k1,k2,k3,hc⟩|⟨⟨_,k1,k2,k3⟩,hrest⟩
  · have g2:decide ((h:Int) < 20)=true:=decide_eq_true (by omega)
    rw [hc,rdV_bad (by decide)]
    refine Wq (qW 35 43 rfl rfl rfl (qM rfl rfl (qK rfl rfl rfl (qM rfl rfl (Sd rfl rfl rfl ‹_› rfl (Sd rfl rfl rfl ‹_› rfl (Sd rfl rfl rfl ‹_› rfl (qT rfl rfl ‹_› rfl (qA rfl rfl (Nl (Wt rfl rfl (Wq (qW 47 50 rfl rfl rfl (Od rfl rfl (Bs rfl ty74 .nil) (qS rfl rfl rfl rfl rfl ty74 rfl rfl (Sl rfl) (qA rfl rfl (Nl (W.nilc (q:=0) (j:=8) rfl rfl (Sl rfl) ?_))))))))))))))))))
    refine W.ret ⟨.inl rfl,_,mt,(RVs.cons (RV.cellA rfl rfl ty74 rfl (Tk.lit rfl)) (RVs.cons (RV.tmp rfl) RVs.nil)),(by (repeat' (first|exact all_mt|refine all_up ?_ ?_))<;>rfl),?_⟩
    exact ⟨rfl,rfl⟩
  · have g2:decide ((h:Int) < 20)=false:=decide_eq_false (by omega)
    have g3:decide ((w:Int) < (h:Int))=true:=decide_eq_true (by omega)
    rw [hc,rdV_bad (by decide)]
    refine Wq (qW 35 43 rfl rfl rfl (qM rfl rfl (qK rfl rfl rfl (qM rfl rfl (Gd rfl rfl rfl ‹_› rfl (Mv rfl rfl) (Gd rfl rfl rfl ‹_› rfl (Mv rfl rfl) (Gd rfl rfl rfl ‹_› rfl (Ls rfl rfl rfl) (qP rfl rfl ‹_› rfl (qA rfl rfl (Nl (Wt rfl ‹_› (Wq (qW 47 50 rfl rfl rfl (Od rfl rfl (Bs rfl ty74 .nil) (qS rfl rfl rfl rfl rfl ty74 rfl rfl (Sl rfl) (qA rfl rfl (Nl (W.nilc (q:=0) (j:=8) rfl rfl (Sl rfl) ?_))))))))))))))))))
    refine W.ret ⟨.inl rfl,_,mt,(RVs.cons (RV.cellA rfl rfl ty74 rfl (Tk.lit rfl)) (RVs.cons (RV.tmp rfl) RVs.nil)),(by (repeat' (first|exact all_mt|refine all_up ?_ ?_))<;>rfl),?_⟩
    exact ⟨rfl,rfl⟩
  · have g2:decide ((h:Int) < 20)=false:=decide_eq_false (by omega)
    have g3:decide ((w:Int) < (h:Int))=false:=decide_eq_false (by omega)
    have g4:decide ((b.length:Int) < (w:Int))=true:=decide_eq_true (by omega)
    rw [hc,rdV_bad (by decide)]
    refine Wq (qW 35 43 rfl rfl rfl (qM rfl rfl (qK rfl rfl rfl (qM rfl rfl (Gd rfl rfl rfl ‹_› rfl (Mv rfl rfl) (Gd rfl rfl rfl ‹_› rfl (Mv rfl rfl) (Gd rfl rfl rfl ‹_› rfl (Ls rfl rfl rfl) (qP rfl rfl ‹_› rfl (qA rfl rfl (Nl (Wf rfl ‹_› (Wq (qW 54 59 rfl rfl rfl (qM rfl rfl (qH rfl rfl rfl ty24 (qM rfl rfl (qK rfl rfl rfl (qA rfl rfl (Nl (Wt rfl ‹_› (Wq (qW 63 66 rfl rfl rfl (Od rfl rfl (Bs rfl ty74 .nil) (qS rfl rfl rfl rfl rfl ty74 rfl rfl (Sl rfl) (qA rfl rfl (Nl (W.nilc (q:=0) (j:=8) rfl rfl (Sl rfl) ?_)))))))))))))))))))))))))))
    refine W.ret ⟨.inl rfl,_,mt,(RVs.cons (RV.cellA rfl rfl ty74 rfl (Tk.lit rfl)) (RVs.cons (RV.tmp rfl) RVs.nil)),(by (repeat' (first|exact all_mt|refine all_up ?_ ?_))<;>rfl),?_⟩
    exact ⟨rfl,rfl⟩
  have g2:decide ((h:Int) < 20)=false:=decide_eq_false (by omega)
  have g3:decide ((w:Int) < (h:Int))=false:=decide_eq_false (by omega)
  have g4:decide ((b.length:Int) < (w:Int))=false:=decide_eq_false (by omega)
  have hsum:=sum_any (b.take h) (hB.take h) (by rw [List.length_take];omega)
  have hth:(b.take h).length=h:=by rw [List.length_take];exact Nat.min_eq_left (by omega)
  rw [hth] at hsum
  rw [Int.toNat_natCast] at hrest
  refine Wq (qW 35 43 rfl rfl rfl (qM rfl rfl (qK rfl rfl rfl (qM rfl rfl (Gd rfl rfl rfl ‹_› rfl (Mv rfl rfl) (Gd rfl rfl rfl ‹_› rfl (Mv rfl rfl) (Gd rfl rfl rfl ‹_› rfl (Ls rfl rfl rfl) (qP rfl rfl ‹_› rfl (qA rfl rfl (Nl (Wf rfl ‹_› (Wq (qW 54 59 rfl rfl rfl (qM rfl rfl (qH rfl rfl rfl ty24 (qM rfl rfl (qK rfl rfl rfl (qA rfl rfl (Nl (Wf rfl ‹_› (Wq (qW 70 76 rfl rfl rfl (qM rfl rfl (qM rfl rfl (Od rfl rfl (Lsi rfl rfl rfl Bnd.no (Ba rfl rfl) (by first|omega|decide|assumption|(simp;done)|(simp;omega)) (by first|omega|decide|assumption|(simp;done)|(simp;omega)) ty24 ty5 (by_take (by omega))) (Od rfl rfl (C0 (fr:=[]) rfl rfl (hsum) fok89 (.cons rfl (.pure rfl) .nil) rfl) (qN rfl rfl rfl (qA rfl rfl (Nl ?_)))))))))))))))))))))))))))))
  rcases hrest with ⟨k4,hc⟩|⟨k4,hrest⟩
  · rw [hc,rdV_bad (by decide)]
    refine Wt rfl ‹_› (Wq (qW 80 83 rfl rfl rfl (Od rfl rfl (Bs rfl ty74 .nil) (qS rfl rfl rfl rfl rfl ty74 rfl rfl (Sl rfl) (qA rfl rfl (Nl (W.nilc (q:=0) (j:=8) rfl rfl (Sl rfl) ?_)))))))
    refine W.ret ⟨.inl rfl,_,mt,(RVs.cons (RV.cellA rfl rfl ty74 rfl (Tk.lit rfl)) (RVs.cons (RV.tmp rfl) RVs.nil)),(by (repeat' (first|exact all_mt|refine all_up ?_ ?_))<;>rfl),?_⟩
    exact ⟨rfl,rfl⟩
  refine Wf rfl ‹_› (Wq (qW 87 93 rfl rfl rfl (qM rfl rfl (Od rfl rfl (Lsi rfl rfl rfl (Ba rfl rfl) Bnd.no (by first|omega|decide|assumption|(simp;done)|(simp;omega)) (by first|omega|decide|assumption|(simp;done)|(simp;omega)) ty24 ty5 (by_drop (l:=b) (k:=6) rfl)) (Od rfl rfl (C0 (fr:=[]) rfl rfl (hg6) fok88 (.cons rfl (.pure rfl) .nil) rfl) (Od rfl rfl (LO.and rfl rfl rfl) (qN rfl rfl rfl (qA rfl rfl (Nl ?_)))))))))
  rw [hmask]
  rcases hrest with ⟨k5,hc⟩|⟨k5,hc⟩
  · rw [hc,rdV_bad (by decide)]
    refine Wt rfl ‹_› (Wq (qW 97 100 rfl rfl rfl (Od rfl rfl (Bs rfl ty74 .nil) (qS rfl rfl rfl rfl rfl ty74 rfl rfl (Sl rfl) (qA rfl rfl (Nl (W.nilc (q:=0) (j:=8) rfl rfl (Sl rfl) ?_)))))))
    refine W.ret ⟨.inl rfl,_,mt,(RVs.cons (RV.cellA rfl rfl ty74 rfl (Tk.lit rfl)) (RVs.cons (RV.tmp rfl) RVs.nil)),(by (repeat' (first|exact all_mt|refine all_up ?_ ?_))<;>rfl),?_⟩
    exact ⟨rfl,rfl⟩
  have hl8:((b.drop 12).take (20 - 12)).length=4 + 4:=by rw [List.length_take,List.length_drop];omega
  have hends:=ends_any ((b.drop 12).take (20 - 12)) 4 ((hB.drop 12).take _) (.inl rfl) hl8
  rw [hl8] at hends
  have he1:((b.drop 12).take (20 - 12)).take 4=(b.drop 12).take 4:=by rw [List.take_take];rfl
  have he2:((b.drop 12).take (20 - 12)).drop 4=(b.drop 16).take 4:=by rw [List.drop_take,List.drop_drop]
  rw [he1,he2] at hends
  rw [hc,rdV_ok,hp4]
  have hdl:((b.drop h).take (w - h)).length=w - h:=by rw [List.length_take,List.length_drop];omega
  refine Wf rfl ‹_› (Wk (Wq (Wd 104 115 (by decide) rfl mixed rfl (qM rfl rfl (qJ rfl rfl rfl rfl rfl ty24 ty5 (by first|omega|decide|assumption|(simp;done)|(simp;omega)) (Od rfl rfl (Li rfl rfl hat8 ty5 rfl) (Od rfl rfl (Ci rfl rfl ty5 ty3 (by (first|exact IntWalk.i64_in _ (by omega)|assumption))) (qM rfl rfl (qJ rfl rfl rfl rfl rfl ty24 ty5 (by first|omega|decide|assumption|(simp;done)|(simp;omega)) (Od rfl rfl (Li rfl rfl hat9 ty5 rfl) (Od rfl rfl (Ci rfl rfl ty5 ty3 (by (first|exact IntWalk.i64_in _ (by omega)|assumption))) (Od rfl rfl (Bs rfl ty74 (.cons rfl rfl rfl rfl (Sl rfl) (.cons rfl rfl rfl rfl (Sl rfl) .nil))) (qB rfl ty74 (qS rfl rfl rfl rfl rfl ty74 rfl rfl (Sl rfl) (Nl ⟨by kernel_rfl,?_⟩)))))))))))))))
  unfold adC at hends
  refine Wq (qW 119 129 rfl rfl rfl (qM rfl rfl (Od rfl rfl (Lsi rfl rfl rfl (Ba rfl rfl) (Ba rfl rfl) (by first|omega|decide|assumption|(simp;done)|(simp;omega)) (by first|omega|decide|assumption|(simp;done)|(simp;omega)) ty24 ty5 (by_part (l:=b) (k:=12) (m:=20) (by decide) (by omega))) (Od rfl rfl (C0 (fr:=[]) rfl rfl (hends) fok90 (.cons rfl (.pure rfl) .nil) rfl) (qM rfl rfl (qX rfl rfl rfl (qX rfl rfl rfl (qF rfl rfl ty74 rfl rfl (qS rfl rfl rfl rfl rfl ty42 rfl rfl (Sl rfl) (qF rfl rfl ty74 rfl rfl (qS rfl rfl rfl rfl rfl ty42 rfl rfl (Sl rfl) (Nl (Wq (Wd 133 142 (by decide) rfl mixed rfl (qF rfl rfl ty74 rfl rfl (qL rfl rfl rfl rfl ty24 rfl (qM rfl rfl (qM rfl rfl (qM rfl rfl (Od rfl rfl (Lsi rfl rfl rfl (Ba rfl rfl) (Ba rfl rfl) (by first|omega|decide|assumption|(simp;done)|(simp;omega)) (by first|omega|decide|assumption|(simp;done)|(simp;omega)) ty24 ty5 (by_part (l:=b) (k:=h) (m:=w) (by omega) (by omega))) (Od rfl rfl (Lan rfl rfl (Ssi rfl rfl (by rw [bytesC_len,hdl];omega)) ty24 ty24 ty5 (by decide) (by omega) (by omega) (by decide)) (qF rfl rfl ty74 rfl rfl (qS rfl rfl rfl rfl rfl ty24 rfl rfl (Sl rfl) (Nl ⟨by kernel_rfl,(Wv (q:=113) (j:=8) (r:=139) rfl rfl (by decide) rfl (bytes_tk hdl) (bytesC_pure _) (Sl rfl) (Wq (qW 146 149 rfl rfl rfl (qG rfl rfl rfl ty74 rfl (Tl rfl) (qS rfl rfl rfl rfl rfl ty74 rfl rfl (Sl rfl) (qA rfl rfl (Nl ?_)))))))⟩))))))))))))))))))))))))
  refine W.ret ⟨.inl rfl,_,mt,(RVs.cons (RV.cellA rfl rfl ty74 rfl (Tk.lit rfl)) (RVs.cons (RV.tmp rfl) RVs.nil)),(by (repeat' (first|exact all_mt|refine all_up ?_ ?_))<;>rfl),?_⟩
  exact ⟨by unfold pkC;rw [hdl];rfl,rfl⟩
theorem c6_cases (b:List Int):(b.length < 40∧c6 b=4)∨(40≤b.length∧(b.length:Int) < 40 + wh6 b∧c6 b=4)∨(40≤b.length∧40 + wh6 b≤(b.length:Int)∧c6 b=0):=by
  unfold c6 code6
  have e:gB b 4 * 256 + gB b 5=wh6 b:=rfl
  rw [e]
  by_cases c1:b.length < 40
  · exact .inl ⟨c1,if_pos (.inl c1)⟩
  · by_cases c2:(b.length:Int) < 40 + wh6 b
    · exact .inr (.inl ⟨by omega,c2,if_pos (.inr c2)⟩)
    · exact .inr (.inr ⟨by omega,by omega,if_neg (by omega)⟩)
set_option maxHeartbeats 4000000 in
theorem six_any (b:List Int) (hB:IsB b) (hl:b.length≤1000000):AFn Tryz.prog 57 0 [.isl (bytesC b) b.length] mt (rdV (p6 b) (c6 b)) mt:=by
  refine AFn.eq Tryz.func57 rfl rfl (Nat.le_of_ble_eq_true rfl) ?_
  have hg4:40≤b.length→AFn Tryz.prog 88 0 [.isl (bytesC (b.drop 4)) (b.length - 4)] mt (.base (.int .i64 (wh6 b))) mt:=fun h=>by
    have:=get_any (b.drop 4) (hB.drop 4) (by rw [List.length_drop];omega)
    rw [gB_drop,gB_drop,List.length_drop] at this
    exact this
  rcases c6_cases b with ⟨k1,hc⟩|⟨k1,k2,hc⟩|⟨k1,k2,hc⟩
  · have g1:decide ((b.length:Int) < 40)=true:=decide_eq_true (by omega)
    rw [hc,rdV_bad (by decide)]
    refine Wq (qW 0 2 rfl rfl rfl (qB rfl ty74 (qA rfl rfl (Nl (Wq (Wq (qW 6 18 rfl rfl rfl (qM rfl rfl (qH rfl rfl rfl ty24 (qK rfl rfl rfl (qM rfl rfl (Sd rfl rfl rfl ‹_› rfl (Sd rfl rfl rfl ‹_› rfl (Sd rfl rfl rfl ‹_› rfl (Sd rfl rfl rfl ‹_› rfl (Sd rfl rfl rfl ‹_› rfl (Sd rfl rfl rfl ‹_› rfl (Sd rfl rfl rfl ‹_› rfl (qT rfl rfl ‹_› rfl (Nl (Wt rfl rfl (Wq (qW 22 25 rfl rfl rfl (Od rfl rfl (Bs rfl ty74 .nil) (qS rfl rfl rfl rfl rfl ty74 rfl rfl (Sl rfl) (qA rfl rfl (Nl (W.nilc (q:=0) (j:=8) rfl rfl (Sl rfl) ?_))))))))))))))))))))))))))))
    refine W.ret ⟨.inl rfl,_,mt,(RVs.cons (RV.cellA rfl rfl ty74 rfl (Tk.lit rfl)) (RVs.cons (RV.tmp rfl) RVs.nil)),(by (repeat' (first|exact all_mt|refine all_up ?_ ?_))<;>rfl),?_⟩
    exact ⟨rfl,rfl⟩
  · have g1:decide ((b.length:Int) < 40)=false:=decide_eq_false (by omega)
    have g2:decide ((b.length:Int) < 40 + wh6 b)=true:=decide_eq_true (by omega)
    have b4:=hB.at 4
    have b5:=hB.at 5
    have hwb:0≤wh6 b∧wh6 b≤65535:=by unfold wh6;omega
    rw [hc,rdV_bad (by decide)]
    refine Wq (qW 0 2 rfl rfl rfl (qB rfl ty74 (qA rfl rfl (Nl (Wq (Wq (qW 6 18 rfl rfl rfl (qM rfl rfl (qH rfl rfl rfl ty24 (qK rfl rfl rfl (qM rfl rfl (Gd rfl rfl rfl ‹_› rfl (Mv rfl rfl) (Gd rfl rfl rfl ‹_› rfl (Ln rfl rfl rfl ty24) (Gd rfl rfl rfl ‹_› rfl (Mv rfl rfl) (Gd rfl rfl rfl ‹_› rfl (Lsi rfl rfl rfl (Ba rfl rfl) Bnd.no (by first|omega|decide|assumption|(simp;done)|(simp;omega)) (by first|omega|decide|assumption|(simp;done)|(simp;omega)) ty24 ty5 (by_drop (l:=b) (k:=4) rfl)) (Gd rfl rfl rfl ‹_› rfl (C0 (fr:=[]) rfl rfl ((hg4 (by omega))) fok88 (.cons rfl (.pure rfl) .nil) rfl) (Gd rfl rfl rfl ‹_› rfl (Ad0 rfl rfl rfl (by (first|exact IntWalk.i64_in _ (by omega)|assumption))) (Gd rfl rfl rfl ‹_› rfl (Ls rfl rfl rfl) (qP rfl rfl ‹_› rfl (Nl (Wt rfl ‹_› (Wq (qW 22 25 rfl rfl rfl (Od rfl rfl (Bs rfl ty74 .nil) (qS rfl rfl rfl rfl rfl ty74 rfl rfl (Sl rfl) (qA rfl rfl (Nl (W.nilc (q:=0) (j:=8) rfl rfl (Sl rfl) ?_))))))))))))))))))))))))))))
    refine W.ret ⟨.inl rfl,_,mt,(RVs.cons (RV.cellA rfl rfl ty74 rfl (Tk.lit rfl)) (RVs.cons (RV.tmp rfl) RVs.nil)),(by (repeat' (first|exact all_mt|refine all_up ?_ ?_))<;>rfl),?_⟩
    exact ⟨rfl,rfl⟩
  · have g1:decide ((b.length:Int) < 40)=false:=decide_eq_false (by omega)
    have g2:decide ((b.length:Int) < 40 + wh6 b)=false:=decide_eq_false (by omega)
    have b4:=hB.at 4
    have b5:=hB.at 5
    have b6:=hB.at 6
    have b7:=hB.at 7
    have hwb:0≤wh6 b∧wh6 b≤65535:=by unfold wh6;omega
    have hg:=hg4 k1
    obtain ⟨w,hwn⟩:∃ w:Nat,wh6 b=(w:Int):=⟨(wh6 b).toNat,by omega⟩
    have hp6:p6 b=⟨fbA true ((b.drop 8).take 16),fbA true ((b.drop 24).take 16),gB b 6,gB b 7,(b.drop 40).take w⟩:=by unfold p6;rw [hwn];rfl
    rw [hwn] at g2 hwb hg k2
    have hat6:=by_at (l:=b) (k:=6) (by omega)
    have hat7:=by_at (l:=b) (k:=7) (by omega)
    have hl8:((b.drop 8).take (40 - 8)).length=16 + 16:=by rw [List.length_take,List.length_drop];omega
    have hends:=ends_any ((b.drop 8).take (40 - 8)) 16 ((hB.drop 8).take _) (.inr rfl) hl8
    rw [hl8] at hends
    have he1:((b.drop 8).take (40 - 8)).take 16=(b.drop 8).take 16:=by rw [List.take_take];rfl
    have he2:((b.drop 8).take (40 - 8)).drop 16=(b.drop 24).take 16:=by rw [List.drop_take,List.drop_drop]
    rw [he1,he2] at hends
    rw [hc,rdV_ok,hp6]
    have hdl:((b.drop 40).take (40 + w - 40)).length=40 + w - 40:=by rw [List.length_take,List.length_drop];omega
    have hw4:40 + w - 40=w:=by omega
    refine Wq (qW 0 2 rfl rfl rfl (qB rfl ty74 (qA rfl rfl (Nl (Wq (Wq (qW 6 18 rfl rfl rfl (qM rfl rfl (qH rfl rfl rfl ty24 (qK rfl rfl rfl (qM rfl rfl (Gd rfl rfl rfl ‹_› rfl (Mv rfl rfl) (Gd rfl rfl rfl ‹_› rfl (Ln rfl rfl rfl ty24) (Gd rfl rfl rfl ‹_› rfl (Mv rfl rfl) (Gd rfl rfl rfl ‹_› rfl (Lsi rfl rfl rfl (Ba rfl rfl) Bnd.no (by first|omega|decide|assumption|(simp;done)|(simp;omega)) (by first|omega|decide|assumption|(simp;done)|(simp;omega)) ty24 ty5 (by_drop (l:=b) (k:=4) rfl)) (Gd rfl rfl rfl ‹_› rfl (C0 (fr:=[]) rfl rfl (hg) fok88 (.cons rfl (.pure rfl) .nil) rfl) (Gd rfl rfl rfl ‹_› rfl (Ad0 rfl rfl rfl (by (first|exact IntWalk.i64_in _ (by omega)|assumption))) (Gd rfl rfl rfl ‹_› rfl (Ls rfl rfl rfl) (qP rfl rfl ‹_› rfl (Nl (Wf rfl ‹_› (Wk (Wq (Wd 29 40 (by decide) rfl mixed rfl (qM rfl rfl (qJ rfl rfl rfl rfl rfl ty24 ty5 (by first|omega|decide|assumption|(simp;done)|(simp;omega)) (Od rfl rfl (Li rfl rfl hat6 ty5 rfl) (Od rfl rfl (Ci rfl rfl ty5 ty3 (by (first|exact IntWalk.i64_in _ (by omega)|assumption))) (qM rfl rfl (qJ rfl rfl rfl rfl rfl ty24 ty5 (by first|omega|decide|assumption|(simp;done)|(simp;omega)) (Od rfl rfl (Li rfl rfl hat7 ty5 rfl) (Od rfl rfl (Ci rfl rfl ty5 ty3 (by (first|exact IntWalk.i64_in _ (by omega)|assumption))) (Od rfl rfl (Bs rfl ty74 (.cons rfl rfl rfl rfl (Sl rfl) (.cons rfl rfl rfl rfl (Sl rfl) .nil))) (qB rfl ty74 (qS rfl rfl rfl rfl rfl ty74 rfl rfl (Sl rfl) (Nl ⟨by kernel_rfl,?_⟩))))))))))))))))))))))))))))))))))))
    unfold adC at hends
    refine Wq (qW 44 54 rfl rfl rfl (qM rfl rfl (Od rfl rfl (Lsi rfl rfl rfl (Ba rfl rfl) (Ba rfl rfl) (by first|omega|decide|assumption|(simp;done)|(simp;omega)) (by first|omega|decide|assumption|(simp;done)|(simp;omega)) ty24 ty5 (by_part (l:=b) (k:=8) (m:=40) (by decide) (by omega))) (Od rfl rfl (C0 (fr:=[]) rfl rfl (hends) fok90 (.cons rfl (.pure rfl) .nil) rfl) (qM rfl rfl (qX rfl rfl rfl (qX rfl rfl rfl (qF rfl rfl ty74 rfl rfl (qS rfl rfl rfl rfl rfl ty42 rfl rfl (Sl rfl) (qF rfl rfl ty74 rfl rfl (qS rfl rfl rfl rfl rfl ty42 rfl rfl (Sl rfl) (Nl ?_))))))))))))
    have h40w:(40:Int) + (w:Int)=((40 + w:Nat):Int):=by omega
    refine Wq (Wd 58 69 (by decide) rfl mixed rfl (qF rfl rfl ty74 rfl rfl (qL rfl rfl rfl rfl ty24 rfl (qM rfl rfl (qM rfl rfl (Od rfl rfl (Lsi rfl rfl rfl (Ba rfl rfl) Bnd.no (by first|omega|decide|assumption|(simp;done)|(simp;omega)) (by first|omega|decide|assumption|(simp;done)|(simp;omega)) ty24 ty5 (by_drop (l:=b) (k:=4) rfl)) (Od rfl rfl (C0 (fr:=[]) rfl rfl (hg) fok88 (.cons rfl (.pure rfl) .nil) rfl) (qZ rfl rfl rfl (by (first|exact IntWalk.i64_in _ (by omega)|assumption)) (Od rfl rfl (Lsi rfl rfl rfl (Ba rfl rfl) (Ba rfl rfl) (by first|omega|decide|assumption|(simp;done)|(simp;omega)) (by first|omega|decide|assumption|(simp;done)|(simp;omega)) ty24 ty5 (by_part (l:=b) (k:=40) (m:=40 + w) (by omega) (by omega))) (Od rfl rfl (Lan rfl rfl (Ssi rfl rfl (by rw [bytesC_len,hdl];omega)) ty24 ty24 ty5 (by decide) (by omega) (by omega) (by decide)) (qF rfl rfl ty74 rfl rfl (qS rfl rfl rfl rfl rfl ty24 rfl rfl (Sl rfl) (Nl ⟨by kernel_rfl,(Wv (q:=38) (j:=8) (r:=66) rfl rfl (by decide) rfl (bytes_tk hdl) (bytesC_pure _) (Sl rfl) ?_)⟩)))))))))))))
    rw [hw4] at hdl ⊢
    refine Wq (qW 73 76 rfl rfl rfl (qG rfl rfl rfl ty74 rfl (Tl rfl) (qS rfl rfl rfl rfl rfl ty74 rfl rfl (Sl rfl) (qA rfl rfl (Nl ?_)))))
    refine W.ret ⟨.inl rfl,_,mt,(RVs.cons (RV.cellA rfl rfl ty74 rfl (Tk.lit rfl)) (RVs.cons (RV.tmp rfl) RVs.nil)),(by (repeat' (first|exact all_mt|refine all_up ?_ ?_))<;>rfl),?_⟩
    exact ⟨by unfold pkC;rw [hdl];rfl,rfl⟩
end Go.Proofs.YtcidmiacfjdepaaGreatDoor
