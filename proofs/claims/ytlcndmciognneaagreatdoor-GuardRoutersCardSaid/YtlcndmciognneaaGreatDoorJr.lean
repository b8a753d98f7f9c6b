/-
  Reading a packet without V6 and with V6: the program. Reading a packet: the program and the document. Messages of address resolution: reading them; stations; finding a station among the rules, an address among the bindings. Reading a message of address resolution; which port a station or an address belongs to. Copies of bytes; which port a frame goes to. Frames, as they come in. Numbers from the list: a number of a range, an address. The message that is made from a list of numbers, and two addresses. The listed variables of chapter 10's cards; rules, as they come in. Reading a message of address resolution, by the document. Where a frame goes. Requests and their bytes.
-/
import Derived.Test.YtlcndmciognneaaGreatDoorCz
import Derived.Test.YtlcndmciognneaaGreatDoorMab
import Derived.Test.YtlcndmciognneaaGreatDoorQj
import Derived.Test.YtlcndmciognneaaGreatDoorQe
import Derived.Test.YtlcndmciognneaaGreatDoorQa
import Derived.Lay
namespace Go.Proofs.YtlcndmciognneaaGreatDoor
open Go.RowKit
theorem u8_and15 {x:Int} (hx:0≤x∧x≤255):bitV .and .u8 x 15=x % 16:=by
 obtain ⟨a,rfl⟩:=Int.eq_ofNat_of_zero_le hx.1
 have ha:a < 256:=by omega
 have e1:(BitVec.ofInt 8 (a:Int)).toNat=a:=by rw [BitVec.ofInt_natCast,BitVec.toNat_ofNat];exact Nat.mod_eq_of_lt ha
 show IntKind.u8.wrap ((BitVec.ofInt 8 (a:Int) &&& BitVec.ofInt 8 ((15:Nat):Int)).toNat:Int)=_
 rw [BitVec.toNat_and,e1,show (BitVec.ofInt 8 ((15:Nat):Int)).toNat=2 ^ 4 - 1 from by decide,Nat.and_two_pow_sub_one_eq_mod,IntKind.wrap_u8']
 omega
theorem i64_and14 {x:Int} (hx:0≤x∧x≤65535):bitV .and .i64 x 16383=x % 16384:=by
 obtain ⟨a,rfl⟩:=Int.eq_ofNat_of_zero_le hx.1
 have ha:a < 65536:=by omega
 have e1:(BitVec.ofInt 64 (a:Int)).toNat=a:=by rw [BitVec.ofInt_natCast,BitVec.toNat_ofNat];exact Nat.mod_eq_of_lt (by omega)
 show IntKind.i64.wrap ((BitVec.ofInt 64 (a:Int) &&& BitVec.ofInt 64 ((16383:Nat):Int)).toNat:Int)=_
 rw [BitVec.toNat_and,e1,show (BitVec.ofInt 64 ((16383:Nat):Int)).toNat=2 ^ 14 - 1 from by decide,Nat.and_two_pow_sub_one_eq_mod,IntWalk.i64_in _ (by omega)]
 omega
def fbA (v6:Bool) (l:List Int):Ad:=⟨v6,(fb l).1,(fb l).2⟩
def p4 (b:List Int):Pk:=⟨fbA false ((b.drop 12).take 4),fbA false ((b.drop 16).take 4),gB b 9,gB b 8,(b.drop (hd4 b).toNat).take ((wh4 b).toNat - (hd4 b).toNat)⟩
def wh6 (b:List Int):Int:=gB b 4 * 256 + gB b 5
def p6 (b:List Int):Pk:=⟨fbA true ((b.drop 8).take 16),fbA true ((b.drop 24).take 16),gB b 6,gB b 7,(b.drop 40).take (wh6 b).toNat⟩
def rdV (p:Pk) (e:Int):AV:=.tup [.agg (pkC (if e=0 then p else zPk)),.base (.int .i64 e)]
theorem rdV_bad {p:Pk} {e:Int} (h:e≠0):rdV p e=.tup [.agg (pkC zPk),.base (.int .i64 e)]:=by unfold rdV;rw [if_neg h]
theorem rdV_ok (p:Pk):rdV p 0=.tup [.agg (pkC p),.base (.int .i64 0)]:=rfl
theorem gB_drop (b:List Int) (k i:Nat):gB (b.drop k) i=gB b (k + i):=by simp [gB,List.getD_eq_getElem?_getD]
def c4 (b:List Int):Int:=code4 b.length b
def c6 (b:List Int):Int:=code6 b.length b
theorem c4_cases (b:List Int):(b.length < 20∧c4 b=4)∨(20≤b.length∧hd4 b < 20∧c4 b=5)∨(20≤b.length∧20≤hd4 b∧wh4 b < hd4 b∧c4 b=5)∨(20≤b.length∧20≤hd4 b∧hd4 b≤wh4 b∧(b.length:Int) < wh4 b∧c4 b=4) ∨
 ((20≤b.length∧20≤hd4 b∧hd4 b≤wh4 b∧wh4 b≤(b.length:Int))∧((sumL (b.take (hd4 b).toNat) != 0)=true∧c4 b=6∨(sumL (b.take (hd4 b).toNat) != 0)=false∧(((gB b 6 * 256 + gB b 7) % 16384 != 0)=true∧c4 b=5∨((gB b 6 * 256 + gB b 7) % 16384 != 0)=false∧c4 b=0))):=by
 unfold c4 code4
 by_cases c1:b.length < 20
 ·rw [if_pos c1];exact .inl ⟨c1,rfl⟩
 rw [if_neg c1]
 by_cases c2:hd4 b < 20
 ·rw [if_pos (.inl c2)];exact .inr (.inl ⟨by omega,c2,rfl⟩)
 by_cases c3:wh4 b < hd4 b
 ·rw [if_pos (.inr c3)];exact .inr (.inr (.inl ⟨by omega,by omega,c3,rfl⟩))
 rw [if_neg (by omega)]
 by_cases c4:(b.length:Int) < wh4 b
 ·rw [if_pos c4];exact .inr (.inr (.inr (.inl ⟨by omega,by omega,by omega,c4,rfl⟩)))
 rw [if_neg c4]
 refine .inr (.inr (.inr (.inr ⟨⟨by omega,by omega,by omega,by omega⟩,?_⟩)))
 by_cases c5:sumL (b.take (hd4 b).toNat)=0
 ·rw [if_neg (by simpa using c5)]
  refine .inr ⟨by simpa using c5,?_⟩
  by_cases c6:(gB b 6 * 256 + gB b 7) % 16384=0
  ·rw [if_neg (by simpa using c6)];exact .inr ⟨by simpa using c6,rfl⟩
  ·rw [if_pos c6];exact .inl ⟨by simpa using c6,rfl⟩
 ·rw [if_pos c5];exact .inl ⟨by simpa using c5,rfl⟩
theorem ends_any (l:List Int) (n:Nat) (hB:IsB l) (hn:n=4∨n=16) (hl:l.length=n + n):AFn Tryz.prog 178 0 [.isl (bytesC l) l.length] mt (.tup [.agg (adC (fbA (n == 16) (l.take n))),.agg (adC (fbA (n == 16) (l.drop n)))]) mt:=by
 refine AFn.eq Tryz.func178 rfl rfl (Nat.le_of_ble_eq_true rfl) ?_
 have hlt:(l.take n).length=n:=by rw [List.length_take];exact Nat.min_eq_left (by omega)
 have hld:(l.drop n).length=n:=by rw [List.length_drop];omega
 have h1:=from_any (l.take n) (hB.take n) (by rw [hlt];exact hn)
 have h2:=from_any (l.drop n) (hB.drop n) (by rw [hld];exact hn)
 rw [hlt] at h1
 rw [hld] at h2
 rw [hl]
 have hT2:Tk (bytesC l) (n * 1) ((n + n - n) * 1) (bytesC (l.drop n)):=by_drop hl
 have hq2:((n + n:Nat):Int) / 2=(n:Int):=by omega
 unfold adC at h1 h2
 rcases hn with rfl|rfl
 all_goals
  repeat (refine Wq ?_)
  refine qW 0 2 rfl<|qB rfl ty54<|qB rfl ty54<|Nl ?_
  repeat (refine Wq ?_)
  refine qW 6 10 rfl<|qM rfl<|qH rfl ty24<|Od rfl rfl (LO.quo_in rfl rfl rfl (by omega) (by omega) (iW _ (by omega)))<|qA rfl<|Nl ?_
  repeat (refine Wq ?_)
  refine qW 14 22 rfl<|qM rfl<|qM rfl<|Od rfl rfl (Lsi rfl rfl rfl Bnd.no (Ba rfl hq2) (by omega) (by omega) ty24 ty5 (by_take (by omega)))<|qY rfl (h1) fok143 rfl<|qM rfl<|qX rfl<|qX rfl<|qS rfl ty54 (Sl rfl) rfl<|Nl ?_
  repeat (refine Wq ?_)
  refine qW 26 34 rfl<|qM rfl<|qM rfl<|Od rfl rfl (Lsi rfl rfl rfl (Ba rfl rfl) Bnd.no (by decide) (by omega) ty24 ty5 hT2)<|qY rfl (h2) fok143 rfl<|qM rfl<|qX rfl<|qX rfl<|qS rfl ty54 (Sl rfl) rfl<|Nl ?_
  repeat (refine Wq ?_)
  refine Wd 38 42 (by decide) rfl mixed rfl<|qG rfl ty54 rfl (Tl rfl)<|qG rfl ty54 rfl (Tl rfl)<|qS rfl ty54 (Sl rfl) rfl<|qS rfl ty54 (Sl rfl) rfl<|Nl ⟨by kernel_rfl,(Wz ⟨.inl rfl,_,mt,(Rc (Ra0 rfl rfl ty54 rfl (Tl rfl)) (Rc (Ra0 rfl rfl ty54 rfl (Tl rfl)) Rv)),aM,?_⟩)⟩
  exact ⟨rfl,rfl⟩
set_option maxHeartbeats 4000000 in
theorem four_any (b:List Int) (hB:IsB b) (hl:b.length≤1000000):AFn Tryz.prog 149 0 [.isl (bytesC b) b.length] mt (rdV (p4 b) (c4 b)) mt:=by
 refine AFn.eq Tryz.func149 rfl rfl (Nat.le_of_ble_eq_true rfl) ?_
 rcases c4_cases b with ⟨k1,hc⟩|hrest
 ·have g1:decide ((b.length:Int) < 20)=true:=decide_eq_true (by omega)
  rw [hc,rdV_bad (by decide)]
  refine Wq<|qW 0 2 rfl<|qB rfl ty83<|qA rfl<|Nl<|Wq<|Wq<|qW 6 9 rfl<|qM rfl<|qH rfl ty24<|qK rfl<|Nl<|Wt rfl ‹_›<|Wq<|qW 13 16 rfl<|Od rfl rfl (Bs rfl ty83 .nil)<|qS rfl ty83 (Sl rfl) rfl<|qA rfl<|Nl<|W.nilc (q:=0) (j:=8) rfl rfl (Sl rfl)<|Wz ⟨.inl rfl,_,mt,(Rc (Ra0 rfl rfl ty83 rfl (Tl rfl)) (Rc (Rt0 rfl) Rv)),aM,?_⟩
  exact ⟨rfl,rfl⟩
 have h20:20≤b.length:=by
  rcases hrest with h|h|h|h
  ·exact h.1
  ·exact h.1
  ·exact h.1
  ·exact h.1.1
 have g1:decide ((b.length:Int) < 20)=false:=decide_eq_false (by omega)
 have b0:=hB.at 0
 have b2:=hB.at 2
 have b3:=hB.at 3
 have b6:=hB.at 6
 have b7:=hB.at 7
 have b8:=hB.at 8
 have b9:=hB.at 9
 have hand:=u8_and15 b0
 have hat0:=by_at (l:=b) (k:=0) (by omega)
 have hat8:=by_at (l:=b) (k:=8) (by omega)
 have hat9:=by_at (l:=b) (k:=9) (by omega)
 have hg2:=get_any (b.drop 2) (hB.drop 2) (by rw [List.length_drop];omega)
 rw [gB_drop,gB_drop,List.length_drop] at hg2
 have hw0:gB b (2 + 0) * 256 + gB b (2 + 1)=wh4 b:=rfl
 rw [hw0] at hg2
 have hh0:gB b 0 % 16 * 4=hd4 b:=rfl
 have hwb:0≤wh4 b∧wh4 b≤65535:=by unfold wh4;omega
 have hhb:0≤hd4 b∧hd4 b≤60:=by unfold hd4;omega
 have hg6:=get_any (b.drop 6) (hB.drop 6) (by rw [List.length_drop];omega)
 rw [gB_drop,gB_drop,List.length_drop] at hg6
 obtain ⟨fr,hfr⟩:∃ fr,gB b (6 + 0) * 256 + gB b (6 + 1)=fr:=⟨_,rfl⟩
 have hfr2:gB b 6 * 256 + gB b 7=fr:=hfr
 rw [hfr] at hg6
 have hfb:0≤fr∧fr≤65535:=by omega
 rw [hfr2] at hrest
 have hmask:=i64_and14 hfb
 obtain ⟨h,hhn⟩:∃ h:Nat,hd4 b=(h:Int):=⟨(hd4 b).toNat,by omega⟩
 obtain ⟨w,hwn⟩:∃ w:Nat,wh4 b=(w:Int):=⟨(wh4 b).toNat,by omega⟩
 rw [hwn] at hg2
 have hp4:p4 b=⟨fbA false ((b.drop 12).take 4),fbA false ((b.drop 16).take 4),gB b 9,gB b 8,(b.drop h).take (w - h)⟩:=by unfold p4;rw [hhn,hwn];rfl
 rw [hhn,hwn] at hrest
 refine Wq<|qW 0 2 rfl<|qB rfl ty83<|qA rfl<|Nl<|Wq<|Wq<|qW 6 9 rfl<|qM rfl<|qH rfl ty24<|qK rfl<|Nl<|Wo rfl ‹_›<|Wu<|Wq<|Wd 20 31 (by decide) rfl mixed rfl<|qM rfl<|qJ rfl rfl ty24 ty5 (by simp;omega)<|Od rfl rfl (Li rfl rfl hat0 ty5 rfl)<|Od rfl rfl (LO.and rfl rfl rfl) ?_
 rw [hand]
 refine Od rfl rfl (Ci rfl rfl ty5 ty3 (iW _ (by omega)))<|Od rfl rfl (LO.mul_in rfl rfl rfl (iW _ (by omega))) ?_
 rw [hh0,hhn]
 refine qM rfl<|Od rfl rfl (Lsi rfl rfl rfl (Ba rfl rfl) Bnd.no (by simp;omega) (by omega) ty24 ty5 (by_drop (l:=b) (k:=2) rfl))<|qY rfl (hg2) fok176 rfl<|qA rfl<|qA rfl<|Nl ⟨by kernel_rfl,(Wq<|Wb ?_)⟩
 rcases hrest with ⟨_,k1,hc⟩|⟨_,k1,k2,hc⟩|⟨_,k1,k2,k3,hc⟩|⟨⟨_,k1,k2,k3⟩,hrest⟩
 ·have g2:decide ((h:Int) < 20)=true:=decide_eq_true (by omega)
  rw [hc,rdV_bad (by decide)]
  refine Wq<|qW 35 43 rfl<|qM rfl<|qK rfl<|qM rfl<|qD rfl ‹_› rfl<|qD rfl ‹_› rfl<|qD rfl ‹_› rfl<|qT rfl ‹_› rfl<|qA rfl<|Nl<|Wt rfl rfl<|Wq<|qW 47 50 rfl<|Od rfl rfl (Bs rfl ty83 .nil)<|qS rfl ty83 (Sl rfl) rfl<|qA rfl<|Nl<|W.nilc (q:=0) (j:=8) rfl rfl (Sl rfl)<|Wz ⟨.inl rfl,_,mt,(Rc (Ra0 rfl rfl ty83 rfl (Tl rfl)) (Rc (Rt0 rfl) Rv)),aM,?_⟩
  exact ⟨rfl,rfl⟩
 ·have g2:decide ((h:Int) < 20)=false:=decide_eq_false (by omega)
  have g3:decide ((w:Int) < (h:Int))=true:=decide_eq_true (by omega)
  rw [hc,rdV_bad (by decide)]
  refine Wq<|qW 35 43 rfl<|qM rfl<|qK rfl<|qM rfl<|gM rfl ‹_›<|gM rfl ‹_›<|gK rfl ‹_›<|qP rfl ‹_› rfl<|qA rfl<|Nl<|Wt rfl ‹_›<|Wq<|qW 47 50 rfl<|Od rfl rfl (Bs rfl ty83 .nil)<|qS rfl ty83 (Sl rfl) rfl<|qA rfl<|Nl<|W.nilc (q:=0) (j:=8) rfl rfl (Sl rfl)<|Wz ⟨.inl rfl,_,mt,(Rc (Ra0 rfl rfl ty83 rfl (Tl rfl)) (Rc (Rt0 rfl) Rv)),aM,?_⟩
  exact ⟨rfl,rfl⟩
 ·have g2:decide ((h:Int) < 20)=false:=decide_eq_false (by omega)
  have g3:decide ((w:Int) < (h:Int))=false:=decide_eq_false (by omega)
  have g4:decide ((b.length:Int) < (w:Int))=true:=decide_eq_true (by omega)
  rw [hc,rdV_bad (by decide)]
  refine Wq<|qW 35 43 rfl<|qM rfl<|qK rfl<|qM rfl<|gM rfl ‹_›<|gM rfl ‹_›<|gK rfl ‹_›<|qP rfl ‹_› rfl<|qA rfl<|Nl<|Wo rfl ‹_›<|Wq<|qW 54 59 rfl<|qM rfl<|qH rfl ty24<|qM rfl<|qK rfl<|qA rfl<|Nl<|Wt rfl ‹_›<|Wq<|qW 63 66 rfl<|Od rfl rfl (Bs rfl ty83 .nil)<|qS rfl ty83 (Sl rfl) rfl<|qA rfl<|Nl<|W.nilc (q:=0) (j:=8) rfl rfl (Sl rfl)<|Wz ⟨.inl rfl,_,mt,(Rc (Ra0 rfl rfl ty83 rfl (Tl rfl)) (Rc (Rt0 rfl) Rv)),aM,?_⟩
  exact ⟨rfl,rfl⟩
 have g2:decide ((h:Int) < 20)=false:=decide_eq_false (by omega)
 have g3:decide ((w:Int) < (h:Int))=false:=decide_eq_false (by omega)
 have g4:decide ((b.length:Int) < (w:Int))=false:=decide_eq_false (by omega)
 have hsum:=sum_any (b.take h) (hB.take h) (by rw [List.length_take];omega)
 have hth:(b.take h).length=h:=by rw [List.length_take];exact Nat.min_eq_left (by omega)
 rw [hth] at hsum
 rw [Int.toNat_natCast] at hrest
 refine Wq<|qW 35 43 rfl<|qM rfl<|qK rfl<|qM rfl<|gM rfl ‹_›<|gM rfl ‹_›<|gK rfl ‹_›<|qP rfl ‹_› rfl<|qA rfl<|Nl<|Wo rfl ‹_›<|Wq<|qW 54 59 rfl<|qM rfl<|qH rfl ty24<|qM rfl<|qK rfl<|qA rfl<|Nl<|Wo rfl ‹_›<|Wq<|qW 70 76 rfl<|qM rfl<|qM rfl<|Od rfl rfl (Lsi rfl rfl rfl Bnd.no (Ba rfl rfl) (by omega) (by omega) ty24 ty5 (by_take (by omega)))<|qY rfl (hsum) fok177 rfl<|qN rfl<|qA rfl<|Nl ?_
 rcases hrest with ⟨k4,hc⟩|⟨k4,hrest⟩
 ·rw [hc,rdV_bad (by decide)]
  refine Wt rfl ‹_›<|Wq<|qW 80 83 rfl<|Od rfl rfl (Bs rfl ty83 .nil)<|qS rfl ty83 (Sl rfl) rfl<|qA rfl<|Nl<|W.nilc (q:=0) (j:=8) rfl rfl (Sl rfl)<|Wz ⟨.inl rfl,_,mt,(Rc (Ra0 rfl rfl ty83 rfl (Tl rfl)) (Rc (Rt0 rfl) Rv)),aM,?_⟩
  exact ⟨rfl,rfl⟩
 refine Wo rfl ‹_›<|Wq<|qW 87 93 rfl<|qM rfl<|Od rfl rfl (Lsi rfl rfl rfl (Ba rfl rfl) Bnd.no (by simp;omega) (by omega) ty24 ty5 (by_drop (l:=b) (k:=6) rfl))<|qY rfl (hg6) fok176 rfl<|Od rfl rfl (LO.and rfl rfl rfl)<|qN rfl<|qA rfl<|Nl ?_
 rw [hmask]
 rcases hrest with ⟨k5,hc⟩|⟨k5,hc⟩
 ·rw [hc,rdV_bad (by decide)]
  refine Wt rfl ‹_›<|Wq<|qW 97 100 rfl<|Od rfl rfl (Bs rfl ty83 .nil)<|qS rfl ty83 (Sl rfl) rfl<|qA rfl<|Nl<|W.nilc (q:=0) (j:=8) rfl rfl (Sl rfl)<|Wz ⟨.inl rfl,_,mt,(Rc (Ra0 rfl rfl ty83 rfl (Tl rfl)) (Rc (Rt0 rfl) Rv)),aM,?_⟩
  exact ⟨rfl,rfl⟩
 have hl8:((b.drop 12).take (20 - 12)).length=4 + 4:=by rw [List.length_take,List.length_drop];omega
 have hends:=ends_any ((b.drop 12).take (20 - 12)) 4 ((hB.drop 12).take _) (.inl rfl) hl8
 rw [hl8] at hends
 have he1:((b.drop 12).take (20 - 12)).take 4=(b.drop 12).take 4:=by rw [List.take_take];rfl
 have he2:((b.drop 12).take (20 - 12)).drop 4=(b.drop 16).take 4:=by rw [List.drop_take,List.drop_drop]
 rw [he1,he2] at hends
 rw [hc,rdV_ok,hp4]
 have hdl:((b.drop h).take (w - h)).length=w - h:=by rw [List.length_take,List.length_drop];omega
 refine Wo rfl ‹_›<|Wu<|Wq<|Wd 104 115 (by decide) rfl mixed rfl<|qM rfl<|qJ rfl rfl ty24 ty5 (by simp;omega)<|Od rfl rfl (Li rfl rfl hat8 ty5 rfl)<|Od rfl rfl (Ci rfl rfl ty5 ty3 (iW _ (by omega)))<|qM rfl<|qJ rfl rfl ty24 ty5 (by simp;omega)<|Od rfl rfl (Li rfl rfl hat9 ty5 rfl)<|Od rfl rfl (Ci rfl rfl ty5 ty3 (iW _ (by omega)))<|Od rfl rfl (Bs rfl ty83 (.cons rfl rfl rfl rfl (Sl rfl) (.cons rfl rfl rfl rfl (Sl rfl) .nil)))<|qB rfl ty83<|qS rfl ty83 (Sl rfl) rfl<|Nl ⟨by kernel_rfl,?_⟩
 unfold adC at hends
 refine Wq<|qW 119 129 rfl<|qM rfl<|Od rfl rfl (Lsi rfl rfl rfl (Ba rfl rfl) (Ba rfl rfl) (by decide) (by omega) ty24 ty5 (by_part (l:=b) (k:=12) (m:=20) (by decide) (by omega)))<|qY rfl (hends) fok178 rfl<|qM rfl<|qX rfl<|qX rfl<|qF rfl ty83 rfl<|qS rfl ty54 (Sl rfl) rfl<|qF rfl ty83 rfl<|qS rfl ty54 (Sl rfl) rfl<|Nl<|Wq<|Wd 133 142 (by decide) rfl mixed rfl<|qF rfl ty83 rfl<|qL rfl ty24 rfl<|qM rfl<|qM rfl<|qM rfl<|Od rfl rfl (Lsi rfl rfl rfl (Ba rfl rfl) (Ba rfl rfl) (by omega) (by omega) ty24 ty5 (by_part (l:=b) (k:=h) (m:=w) (by omega) (by omega)))<|Od rfl rfl (Lan rfl rfl (Ssi rfl rfl (by rw [bytesC_len,hdl];omega)) ty24 ty24 ty5 (by decide) (by omega) (by omega) (by decide))<|qF rfl ty83 rfl<|qS rfl ty24 (Sl rfl) rfl<|Nl ⟨by kernel_rfl,(Wv (q:=113) (j:=8) (r:=139) rfl rfl (by decide) rfl (bytes_tk hdl) (bytesC_pure _) (Sl rfl)<|Wq<|qW 146 149 rfl<|qG rfl ty83 rfl (Tl rfl)<|qS rfl ty83 (Sl rfl) rfl<|qA rfl<|Nl<|Wz ⟨.inl rfl,_,mt,(Rc (Ra0 rfl rfl ty83 rfl (Tl rfl)) (Rc (Rt0 rfl) Rv)),aM,?_⟩)⟩
 exact ⟨by unfold pkC;rw [hdl];rfl,rfl⟩
theorem c6_cases (b:List Int):(b.length < 40∧c6 b=4)∨(40≤b.length∧(b.length:Int) < 40 + wh6 b∧c6 b=4)∨(40≤b.length∧40 + wh6 b≤(b.length:Int)∧c6 b=0):=by
 unfold c6 code6
 have e:gB b 4 * 256 + gB b 5=wh6 b:=rfl
 rw [e]
 by_cases c1:b.length < 40
 ·exact .inl ⟨c1,if_pos (.inl c1)⟩
 ·by_cases c2:(b.length:Int) < 40 + wh6 b
  ·exact .inr (.inl ⟨by omega,c2,if_pos (.inr c2)⟩)
  ·exact .inr (.inr ⟨by omega,by omega,if_neg (by omega)⟩)
set_option maxHeartbeats 4000000 in
theorem six_any (b:List Int) (hB:IsB b) (hl:b.length≤1000000):AFn Tryz.prog 150 0 [.isl (bytesC b) b.length] mt (rdV (p6 b) (c6 b)) mt:=by
 refine AFn.eq Tryz.func150 rfl rfl (Nat.le_of_ble_eq_true rfl) ?_
 have hg4:40≤b.length→AFn Tryz.prog 176 0 [.isl (bytesC (b.drop 4)) (b.length - 4)] mt (.base (.int .i64 (wh6 b))) mt:=fun h=>by
  have:=get_any (b.drop 4) (hB.drop 4) (by rw [List.length_drop];omega)
  rw [gB_drop,gB_drop,List.length_drop] at this
  exact this
 rcases c6_cases b with ⟨k1,hc⟩|⟨k1,k2,hc⟩|⟨k1,k2,hc⟩
 ·have g1:decide ((b.length:Int) < 40)=true:=decide_eq_true (by omega)
  rw [hc,rdV_bad (by decide)]
  refine Wq<|qW 0 2 rfl<|qB rfl ty83<|qA rfl<|Nl<|Wq<|Wq<|qW 6 18 rfl<|qM rfl<|qH rfl ty24<|qK rfl<|qM rfl<|qD rfl ‹_› rfl<|qD rfl ‹_› rfl<|qD rfl ‹_› rfl<|qD rfl ‹_› rfl<|qD rfl ‹_› rfl<|qD rfl ‹_› rfl<|qD rfl ‹_› rfl<|qT rfl ‹_› rfl<|Nl<|Wt rfl rfl<|Wq<|qW 22 25 rfl<|Od rfl rfl (Bs rfl ty83 .nil)<|qS rfl ty83 (Sl rfl) rfl<|qA rfl<|Nl<|W.nilc (q:=0) (j:=8) rfl rfl (Sl rfl)<|Wz ⟨.inl rfl,_,mt,(Rc (Ra0 rfl rfl ty83 rfl (Tl rfl)) (Rc (Rt0 rfl) Rv)),aM,?_⟩
  exact ⟨rfl,rfl⟩
 ·have g1:decide ((b.length:Int) < 40)=false:=decide_eq_false (by omega)
  have g2:decide ((b.length:Int) < 40 + wh6 b)=true:=decide_eq_true (by omega)
  have b4:=hB.at 4
  have b5:=hB.at 5
  have hwb:0≤wh6 b∧wh6 b≤65535:=by unfold wh6;omega
  rw [hc,rdV_bad (by decide)]
  refine Wq<|qW 0 2 rfl<|qB rfl ty83<|qA rfl<|Nl<|Wq<|Wq<|qW 6 18 rfl<|qM rfl<|qH rfl ty24<|qK rfl<|qM rfl<|gM rfl ‹_›<|gH rfl ‹_› ty24<|gM rfl ‹_›<|qU rfl ‹_› rfl (Lsi rfl rfl rfl (Ba rfl rfl) Bnd.no (by simp;omega) (by omega) ty24 ty5 (by_drop (l:=b) (k:=4) rfl))<|gY rfl ‹_› ((hg4 (by omega))) fok176 rfl<|qU rfl ‹_› rfl (Ad0 rfl rfl rfl (iW _ (by omega)))<|gK rfl ‹_›<|qP rfl ‹_› rfl<|Nl<|Wt rfl ‹_›<|Wq<|qW 22 25 rfl<|Od rfl rfl (Bs rfl ty83 .nil)<|qS rfl ty83 (Sl rfl) rfl<|qA rfl<|Nl<|W.nilc (q:=0) (j:=8) rfl rfl (Sl rfl)<|Wz ⟨.inl rfl,_,mt,(Rc (Ra0 rfl rfl ty83 rfl (Tl rfl)) (Rc (Rt0 rfl) Rv)),aM,?_⟩
  exact ⟨rfl,rfl⟩
 ·have g1:decide ((b.length:Int) < 40)=false:=decide_eq_false (by omega)
  have g2:decide ((b.length:Int) < 40 + wh6 b)=false:=decide_eq_false (by omega)
  have b4:=hB.at 4
  have b5:=hB.at 5
  have b6:=hB.at 6
  have b7:=hB.at 7
  have hwb:0≤wh6 b∧wh6 b≤65535:=by unfold wh6;omega
  have hg:=hg4 k1
  obtain ⟨w,hwn⟩:∃ w:Nat,wh6 b=(w:Int):=⟨(wh6 b).toNat,by omega⟩
  have hp6:p6 b=⟨fbA true ((b.drop 8).take 16),fbA true ((b.drop 24).take 16),gB b 6,gB b 7,(b.drop 40).take w⟩:=by unfold p6;rw [hwn];rfl
  rw [hwn] at g2 hwb hg k2
  have hat6:=by_at (l:=b) (k:=6) (by omega)
  have hat7:=by_at (l:=b) (k:=7) (by omega)
  have hl8:((b.drop 8).take (40 - 8)).length=16 + 16:=by rw [List.length_take,List.length_drop];omega
  have hends:=ends_any ((b.drop 8).take (40 - 8)) 16 ((hB.drop 8).take _) (.inr rfl) hl8
  rw [hl8] at hends
  have he1:((b.drop 8).take (40 - 8)).take 16=(b.drop 8).take 16:=by rw [List.take_take];rfl
  have he2:((b.drop 8).take (40 - 8)).drop 16=(b.drop 24).take 16:=by rw [List.drop_take,List.drop_drop]
  rw [he1,he2] at hends
  rw [hc,rdV_ok,hp6]
  have hdl:((b.drop 40).take (40 + w - 40)).length=40 + w - 40:=by rw [List.length_take,List.length_drop];omega
  have hw4:40 + w - 40=w:=by omega
  refine Wq<|qW 0 2 rfl<|qB rfl ty83<|qA rfl<|Nl<|Wq<|Wq<|qW 6 18 rfl<|qM rfl<|qH rfl ty24<|qK rfl<|qM rfl<|gM rfl ‹_›<|gH rfl ‹_› ty24<|gM rfl ‹_›<|qU rfl ‹_› rfl (Lsi rfl rfl rfl (Ba rfl rfl) Bnd.no (by simp;omega) (by omega) ty24 ty5 (by_drop (l:=b) (k:=4) rfl))<|gY rfl ‹_› (hg) fok176 rfl<|qU rfl ‹_› rfl (Ad0 rfl rfl rfl (iW _ (by omega)))<|gK rfl ‹_›<|qP rfl ‹_› rfl<|Nl<|Wo rfl ‹_›<|Wu<|Wq<|Wd 29 40 (by decide) rfl mixed rfl<|qM rfl<|qJ rfl rfl ty24 ty5 (by simp;omega)<|Od rfl rfl (Li rfl rfl hat6 ty5 rfl)<|Od rfl rfl (Ci rfl rfl ty5 ty3 (iW _ (by omega)))<|qM rfl<|qJ rfl rfl ty24 ty5 (by simp;omega)<|Od rfl rfl (Li rfl rfl hat7 ty5 rfl)<|Od rfl rfl (Ci rfl rfl ty5 ty3 (iW _ (by omega)))<|Od rfl rfl (Bs rfl ty83 (.cons rfl rfl rfl rfl (Sl rfl) (.cons rfl rfl rfl rfl (Sl rfl) .nil)))<|qB rfl ty83<|qS rfl ty83 (Sl rfl) rfl<|Nl ⟨by kernel_rfl,?_⟩
  unfold adC at hends
  refine Wq<|qW 44 54 rfl<|qM rfl<|Od rfl rfl (Lsi rfl rfl rfl (Ba rfl rfl) (Ba rfl rfl) (by decide) (by omega) ty24 ty5 (by_part (l:=b) (k:=8) (m:=40) (by decide) (by omega)))<|qY rfl (hends) fok178 rfl<|qM rfl<|qX rfl<|qX rfl<|qF rfl ty83 rfl<|qS rfl ty54 (Sl rfl) rfl<|qF rfl ty83 rfl<|qS rfl ty54 (Sl rfl) rfl<|Nl ?_
  have h40w:(40:Int) + (w:Int)=((40 + w:Nat):Int):=by omega
  refine Wq<|Wd 58 69 (by decide) rfl mixed rfl<|qF rfl ty83 rfl<|qL rfl ty24 rfl<|qM rfl<|qM rfl<|Od rfl rfl (Lsi rfl rfl rfl (Ba rfl rfl) Bnd.no (by simp;omega) (by omega) ty24 ty5 (by_drop (l:=b) (k:=4) rfl))<|qY rfl (hg) fok176 rfl<|qZ rfl (iW _ (by omega))<|Od rfl rfl (Lsi rfl rfl rfl (Ba rfl rfl) (Ba rfl rfl) (by omega) (by simp;omega) ty24 ty5 (by_part (l:=b) (k:=40) (m:=40 + w) (by omega) (by omega)))<|Od rfl rfl (Lan rfl rfl (Ssi rfl rfl (by rw [bytesC_len,hdl];omega)) ty24 ty24 ty5 (by decide) (by omega) (by omega) (by decide))<|qF rfl ty83 rfl<|qS rfl ty24 (Sl rfl) rfl<|Nl ⟨by kernel_rfl,(Wv (q:=38) (j:=8) (r:=66) rfl rfl (by decide) rfl (bytes_tk hdl) (bytesC_pure _) (Sl rfl) ?_)⟩
  rw [hw4] at hdl ⊢
  refine Wq<|qW 73 76 rfl<|qG rfl ty83 rfl (Tl rfl)<|qS rfl ty83 (Sl rfl) rfl<|qA rfl<|Nl<|Wz ⟨.inl rfl,_,mt,(Rc (Ra0 rfl rfl ty83 rfl (Tl rfl)) (Rc (Rt0 rfl) Rv)),aM,?_⟩
  exact ⟨by unfold pkC;rw [hdl];rfl,rfl⟩
def fin (p:Pk) (e:Int):Int:=if e=0 then (if vpk p then 0 else 3) else e
def dcP (b:List Int):Pk:=if gB b 0 / 16=4 then p4 b else p6 b
def dcE (b:List Int):Int:=if b.length=0 then 4 else if gB b 0 / 16=4 then fin (p4 b) (c4 b) else if gB b 0 / 16=6 then fin (p6 b) (c6 b) else 5
theorem sh4 (x:Int) (_hx:0≤x∧x≤255):x.fdiv (2 ^ (min (4:Int).toNat IntKind.u8.bits))=x / 16:=by
 rw [show (2:Int) ^ (min (4:Int).toNat IntKind.u8.bits)=16 from by decide,Int.fdiv_eq_ediv_of_nonneg _ (by decide)]
theorem fin_cases (q:Pk) (e:Int):((e == 0)=false∧(e != 0)=true∧fin q e=e∧e≠0)∨(e=0∧vpk q=false∧fin q e=3)∨(e=0∧vpk q=true∧fin q e=0):=by
 unfold fin
 by_cases h:e=0
 ·subst h
  cases hv:vpk q
  ·exact .inr (.inl ⟨rfl,rfl,rfl⟩)
  ·exact .inr (.inr ⟨rfl,rfl,rfl⟩)
 ·exact .inl ⟨by simpa using h,by simpa using h,if_neg h,h⟩
set_option maxHeartbeats 2000000 in
theorem pdec_any (b:List Int) (hB:IsB b) (hl:b.length≤1000000):AFn Tryz.prog 115 0 [.isl (bytesC b) b.length] mt (rdV (dcP b) (dcE b)) mt:=by
 refine AFn.eq Tryz.func115 rfl rfl (Nat.le_of_ble_eq_true rfl) ?_
 have b0:=hB.at 0
 have hsh:=sh4 _ b0
 by_cases h0:b.length=0
 ·have g1:((b.length:Int) == 0)=true:=by rw [h0];rfl
  have hd:dcE b=4:=by unfold dcE;rw [if_pos h0]
  rw [hd,rdV_bad (by decide)]
  refine Wq<|qW 0 2 rfl<|qB rfl ty83<|qA rfl<|Nl<|Wq<|Wq<|qW 6 9 rfl<|qM rfl<|qH rfl ty24<|qE rfl<|Nl<|Wt rfl ‹_›<|Wq<|qW 13 16 rfl<|Od rfl rfl (Bs rfl ty83 .nil)<|qS rfl ty83 (Sl rfl) rfl<|qA rfl<|Nl<|W.nilc (q:=0) (j:=8) rfl rfl (Sl rfl)<|Wz ⟨.inl rfl,_,mt,(Rc (Ra0 rfl rfl ty83 rfl (Tl rfl)) (Rc (Rt0 rfl) Rv)),aM,?_⟩
  exact ⟨rfl,rfl⟩
 have g1:((b.length:Int) == 0)=false:=by rw [beq_eq_false_iff_ne];omega
 have hat0:=by_at (l:=b) (k:=0) (by omega)
 have hcase:(gB b 0 / 16=4∧dcP b=p4 b∧dcE b=fin (p4 b) (c4 b))∨((gB b 0 / 16 == 4)=false∧gB b 0 / 16=6∧dcP b=p6 b∧dcE b=fin (p6 b) (c6 b))∨((gB b 0 / 16 == 4)=false∧(gB b 0 / 16 == 6)=false∧dcE b=5):=by
  unfold dcP dcE
  by_cases c1:gB b 0 / 16=4
  ·exact .inl ⟨c1,if_pos c1,by rw [if_neg h0,if_pos c1]⟩
  ·by_cases c2:gB b 0 / 16=6
   ·exact .inr (.inl ⟨by simpa using c1,c2,if_neg c1,by rw [if_neg h0,if_neg c1,if_pos c2]⟩)
   ·exact .inr (.inr ⟨by simpa using c1,by simpa using c2,by rw [if_neg h0,if_neg c1,if_neg c2]⟩)
 have hf4:=four_any b hB hl
 have hf6:=six_any b hB hl
 refine Wq<|qW 0 2 rfl<|qB rfl ty83<|qA rfl<|Nl<|Wq<|Wq<|qW 6 9 rfl<|qM rfl<|qH rfl ty24<|qE rfl<|Nl<|Wo rfl ‹_›<|Wu<|Wq<|qW 20 21 rfl<|qB rfl ty83<|Nl<|Wq<|qW 25 26 rfl<|qA rfl<|Nl<|Wq<|Wq<|qW 30 34 rfl<|qM rfl<|qJ rfl rfl ty24 ty5 (by simp;omega)<|Od rfl rfl (Li rfl rfl hat0 ty5 rfl)<|Od rfl rfl (LO.shr rfl rfl rfl (by omega))<|Nl ?_
 rw [hsh]
 refine Wb ?_
 rcases hcase with ⟨c1,hd1,hd2⟩|⟨c1,c2,hd1,hd2⟩|⟨c1,c2,hd2⟩
 case' inl =>
  rw [c1,hd1,hd2]
  obtain ⟨q,hq⟩:∃ q,p4 b=q:=⟨_,rfl⟩
  obtain ⟨e,he⟩:∃ e,c4 b=e:=⟨_,rfl⟩
  rw [hq,he] at hf4 ⊢
  unfold rdV at hf4
  obtain ⟨Q,hQ⟩:∃ Q,(if e=0 then q else zPk)=Q:=⟨_,rfl⟩
  rw [hQ] at hf4
  refine Wq<|qW 38 40 rfl<|qE rfl<|qA rfl<|Nl<|Wt rfl (rfl)<|qW 44 51 rfl<|qM rfl<|qY rfl (hf4) fok149 rfl<|qM rfl<|qX rfl<|qX rfl<|qS rfl ty83 (Sl rfl) rfl<|qA rfl<|Nl ?_
 case' inr.inl =>
  rw [c2,hd1,hd2]
  obtain ⟨q,hq⟩:∃ q,p6 b=q:=⟨_,rfl⟩
  obtain ⟨e,he⟩:∃ e,c6 b=e:=⟨_,rfl⟩
  rw [hq,he] at hf6 ⊢
  unfold rdV at hf6
  obtain ⟨Q,hQ⟩:∃ Q,(if e=0 then q else zPk)=Q:=⟨_,rfl⟩
  rw [hQ] at hf6
  refine Wq<|qW 38 40 rfl<|qE rfl<|qA rfl<|Nl<|Wo rfl (rfl)<|Wq<|qW 55 57 rfl<|qE rfl<|qA rfl<|Nl<|Wt rfl (rfl)<|qW 61 68 rfl<|qM rfl<|qY rfl (hf6) fok150 rfl<|qM rfl<|qX rfl<|qX rfl<|qS rfl ty83 (Sl rfl) rfl<|qA rfl<|Nl ?_
 case' inr.inr =>
  rw [hd2,rdV_bad (by decide)]
  refine Wq<|qW 38 40 rfl<|qE rfl<|qA rfl<|Nl<|Wo rfl ‹_›<|Wq<|qW 55 57 rfl<|qE rfl<|qA rfl<|Nl<|Wo rfl ‹_›<|qW 72 73 rfl<|qA rfl<|Nl<|Wq<|Wq<|qW 77 84 rfl<|qM rfl<|qE rfl<|qM rfl<|qD rfl rfl rfl<|qD rfl rfl rfl<|qD rfl rfl rfl<|qP rfl rfl rfl<|Nl<|Wo rfl (rfl)<|Wu<|Wq<|Wq<|qW 93 95 rfl<|qM rfl<|qN rfl<|Nl<|Wt rfl (rfl)<|Wq<|qW 99 103 rfl<|Od rfl rfl (Bs rfl ty83 .nil)<|qM rfl<|qS rfl ty83 (Sl rfl) rfl<|qA rfl<|Nl<|W.nilc (q:=0) (j:=8) rfl rfl (Sl rfl)<|Wz ⟨.inl rfl,_,mt,(Rc (Ra0 rfl rfl ty83 rfl (Tl rfl)) (Rc (Rt0 rfl) Rv)),aM,?_⟩
  exact ⟨rfl,rfl⟩
 all_goals
  have hpv:=pvalid_any Q
  rcases fin_cases q e with ⟨f1,f2,f3,f4⟩|⟨rfl,f2,f3⟩|⟨rfl,f2,f3⟩
  ·rw [f3,rdV_bad f4]
   repeat (refine Wq ?_)
   refine qW 77 84 rfl<|qM rfl<|qE rfl<|qM rfl<|qD rfl ‹_› rfl<|qD rfl ‹_› rfl<|qD rfl ‹_› rfl<|qP rfl ‹_› rfl<|Nl<|Wo rfl rfl<|Wu ?_
   repeat (refine Wq ?_)
   refine qW 93 95 rfl<|qM rfl<|qN rfl<|Nl<|Wt rfl ‹_› ?_
   repeat (refine Wq ?_)
   refine qW 99 103 rfl<|Od rfl rfl (Bs rfl ty83 .nil)<|qM rfl<|qS rfl ty83 (Sl rfl) rfl<|qA rfl<|Nl<|W.nilc (q:=0) (j:=8) rfl rfl (Sl rfl)<|Wz ⟨.inl rfl,_,mt,(Rc (Ra0 rfl rfl ty83 rfl (Tl rfl)) (Rc (Rt0 rfl) Rv)),aM,?_⟩
   exact ⟨rfl,rfl⟩
  ·have hQ2:Q=q:=hQ.symm
   subst hQ2
   rw [f2] at hpv
   rw [f3,rdV_bad (by decide)]
   repeat (refine Wq ?_)
   refine qW 77 84 rfl<|qM rfl<|qE rfl<|qM rfl<|gG rfl rfl ty83 rfl (Tl rfl)<|qU rfl rfl rfl (C0 (fr:=[]) rfl rfl (hpv) fok151 (.cons rfl (.pure (pkC_pure Q)) .nil) rfl)<|gO rfl rfl<|qT rfl rfl rfl<|Nl<|Wt rfl (rfl)<|qW 88 89 rfl<|qA rfl<|Nl ?_
   repeat (refine Wq ?_)
   refine qW 93 95 rfl<|qM rfl<|qN rfl<|Nl<|Wt rfl (rfl) ?_
   repeat (refine Wq ?_)
   refine qW 99 103 rfl<|Od rfl rfl (Bs rfl ty83 .nil)<|qM rfl<|qS rfl ty83 (Sl rfl) rfl<|qA rfl<|Nl<|W.nilc (q:=0) (j:=8) rfl rfl (Sl rfl)<|Wz ⟨.inl rfl,_,mt,(Rc (Ra0 rfl rfl ty83 rfl (Tl rfl)) (Rc (Rt0 rfl) Rv)),aM,?_⟩
   exact ⟨rfl,rfl⟩
  ·have hQ2:Q=q:=hQ.symm
   subst hQ2
   rw [f2] at hpv
   rw [f3,rdV_ok]
   repeat (refine Wq ?_)
   refine qW 77 84 rfl<|qM rfl<|qE rfl<|qM rfl<|gG rfl rfl ty83 rfl (Tl rfl)<|qU rfl rfl rfl (C0 (fr:=[]) rfl rfl (hpv) fok151 (.cons rfl (.pure (pkC_pure Q)) .nil) rfl)<|gO rfl rfl<|qT rfl rfl rfl<|Nl<|Wo rfl (rfl)<|Wu ?_
   repeat (refine Wq ?_)
   refine qW 93 95 rfl<|qM rfl<|qN rfl<|Nl<|Wo rfl (rfl)<|Wu ?_
   repeat (refine Wq ?_)
   refine qW 107 110 rfl<|qG rfl ty83 rfl (Tl rfl)<|qS rfl ty83 (Sl rfl) rfl<|qA rfl<|Nl<|Wz ⟨.inl rfl,_,mt,(Rc (Ra0 rfl rfl ty83 rfl (pk_tk Q)) (Rc (Rt0 rfl) Rv)),aM,?_⟩
   exact ⟨rfl,rfl⟩
structure Arp where
 op:Int
 fm:List Int
 fr:Ad
 tm:List Int
 tt:Ad
def arpC (a:Arp):List AV:=[.base (.int .i64 a.op)]++bytesC a.fm++adC a.fr++bytesC a.tm++adC a.tt
def zArp:Arp:=⟨0,[0,0,0,0,0,0],⟨false,0,0⟩,[0,0,0,0,0,0],⟨false,0,0⟩⟩
def ip4 (a:Ad):Bool:=validA a.v6 a.hi a.lo && !a.v6
def arpV (a:Arp):Bool:=(a.op == 1 || a.op == 2) && (ip4 a.fr && ip4 a.tt)
theorem arpV_any (a:Arp) (h1:a.fm.length=6) (h2:a.tm.length=6):AFn Tryz.prog 145 0 [.agg (arpC a)] mt (.base (.bool (arpV a))) mt:=by
 refine AFn.eq Tryz.func145 rfl rfl (Nat.le_of_ble_eq_true rfl) ?_
 have v1:=avalid_any a.fr
 have v2:=avalid_any a.tt
 obtain ⟨op,fm,fr,tm,tt⟩:=a
 dsimp only at h1 h2 v1 v2
 match fm,tm,h1,h2 with
 | [a0,a1,a2,a3,a4,a5],[b0,b1,b2,b3,b4,b5],_,_ =>
  unfold arpV ip4
  dsimp only
  generalize hf:validA fr.v6 fr.hi fr.lo=vf at *
  generalize ht:validA tt.v6 tt.hi tt.lo=vt at *
  obtain ⟨f6,fh,fl⟩:=fr
  obtain ⟨t6,th,tl⟩:=tt
  refine Wq<|qW 0 2 rfl<|qC rfl<|qA rfl<|Nl<|Wq<|qW 6 37 rfl<|qF rfl ty78 rfl<|qL rfl ty3 rfl<|qE rfl<|qM rfl<|RW.split (t:=6) rfl (fun hb1=>?_) (fun hb1=>?_)
  ·
   try (have hb1p:=of_decide_eq_true hb1)
   try (have hb1q:=eq_of_beq hb1)
   refine qD rfl hb1 rfl<|qD rfl hb1 rfl<|qD rfl hb1 rfl<|qT rfl hb1 rfl<|qM rfl<|gF rfl rfl ty78 rfl<|gG rfl rfl ty54 rfl (Tl rfl)<|gY rfl rfl ((by exact v1)) fok174 rfl<|qT rfl rfl rfl<|qM rfl<|RW.split (t:=16) rfl (fun hb2=>?_) (fun hb2=>?_)
   ·
    try (have hb2p:=of_decide_eq_true hb2)
    try (have hb2q:=eq_of_beq hb2)
    refine gF rfl hb2 ty78 rfl<|gF rfl hb2 ty54 rfl<|gL rfl hb2 ty4 rfl<|gO rfl hb2<|qT rfl hb2 rfl<|qM rfl<|RW.split (t:=22) rfl (fun hb3=>?_) (fun hb3=>?_)
    ·
     try (have hb3p:=of_decide_eq_true hb3)
     try (have hb3q:=eq_of_beq hb3)
     refine gF rfl hb3 ty78 rfl<|gG rfl hb3 ty54 rfl (Tl rfl)<|gY rfl hb3 ((by exact v2)) fok174 rfl<|qT rfl hb3 rfl<|qM rfl<|RW.split (t:=27) rfl (fun hb4=>?_) (fun hb4=>?_)
     ·
      try (have hb4p:=of_decide_eq_true hb4)
      try (have hb4q:=eq_of_beq hb4)
      refine gF rfl hb4 ty78 rfl<|gF rfl hb4 ty54 rfl<|gL rfl hb4 ty4 rfl<|gO rfl hb4<|qT rfl hb4 rfl<|qA rfl<|Nl<|Wz ⟨.inl rfl,_,mt,Rc (Rt0 rfl) (Rv),aM,?_⟩
      exact ⟨by simp_all [retOf],rfl⟩
     ·
      try (have hb4p:=of_decide_eq_false hb4)
      try (have hb4q:=ne_of_beq_false hb4)
      refine qD rfl hb4 rfl<|qD rfl hb4 rfl<|qD rfl hb4 rfl<|qD rfl hb4 rfl<|qP rfl hb4 rfl<|qA rfl<|Nl<|Wz ⟨.inl rfl,_,mt,Rc (Rt0 rfl) (Rv),aM,?_⟩
      exact ⟨by simp_all [retOf],rfl⟩
    ·
     try (have hb3p:=of_decide_eq_false hb3)
     try (have hb3q:=ne_of_beq_false hb3)
     refine qD rfl hb3 rfl<|qD rfl hb3 rfl<|qD rfl hb3 rfl<|qP rfl hb3 rfl<|qM rfl<|qD rfl rfl rfl<|qD rfl rfl rfl<|qD rfl rfl rfl<|qD rfl rfl rfl<|qP rfl rfl rfl<|qA rfl<|Nl<|Wz ⟨.inl rfl,_,mt,Rc (Rt0 rfl) (Rv),aM,?_⟩
     exact ⟨by simp_all [retOf],rfl⟩
   ·
    try (have hb2p:=of_decide_eq_false hb2)
    try (have hb2q:=ne_of_beq_false hb2)
    refine qD rfl hb2 rfl<|qD rfl hb2 rfl<|qD rfl hb2 rfl<|qD rfl hb2 rfl<|qP rfl hb2 rfl<|qM rfl<|qD rfl rfl rfl<|qD rfl rfl rfl<|qD rfl rfl rfl<|qP rfl rfl rfl<|qM rfl<|qD rfl rfl rfl<|qD rfl rfl rfl<|qD rfl rfl rfl<|qD rfl rfl rfl<|qP rfl rfl rfl<|qA rfl<|Nl<|Wz ⟨.inl rfl,_,mt,Rc (Rt0 rfl) (Rv),aM,?_⟩
    exact ⟨by simp_all [retOf],rfl⟩
  ·
   try (have hb1p:=of_decide_eq_false hb1)
   try (have hb1q:=ne_of_beq_false hb1)
   refine gF rfl hb1 ty78 rfl<|gL rfl hb1 ty3 rfl<|gE rfl hb1<|qP rfl hb1 rfl<|qM rfl<|RW.split (t:=11) rfl (fun hb5=>?_) (fun hb5=>?_)
   ·
    try (have hb5p:=of_decide_eq_true hb5)
    try (have hb5q:=eq_of_beq hb5)
    refine gF rfl hb5 ty78 rfl<|gG rfl hb5 ty54 rfl (Tl rfl)<|gY rfl hb5 ((by exact v1)) fok174 rfl<|qT rfl hb5 rfl<|qM rfl<|RW.split (t:=16) rfl (fun hb6=>?_) (fun hb6=>?_)
    ·
     try (have hb6p:=of_decide_eq_true hb6)
     try (have hb6q:=eq_of_beq hb6)
     refine gF rfl hb6 ty78 rfl<|gF rfl hb6 ty54 rfl<|gL rfl hb6 ty4 rfl<|gO rfl hb6<|qT rfl hb6 rfl<|qM rfl<|RW.split (t:=22) rfl (fun hb7=>?_) (fun hb7=>?_)
     ·
      try (have hb7p:=of_decide_eq_true hb7)
      try (have hb7q:=eq_of_beq hb7)
      refine gF rfl hb7 ty78 rfl<|gG rfl hb7 ty54 rfl (Tl rfl)<|gY rfl hb7 ((by exact v2)) fok174 rfl<|qT rfl hb7 rfl<|qM rfl<|RW.split (t:=27) rfl (fun hb8=>?_) (fun hb8=>?_)
      ·
       try (have hb8p:=of_decide_eq_true hb8)
       try (have hb8q:=eq_of_beq hb8)
       refine gF rfl hb8 ty78 rfl<|gF rfl hb8 ty54 rfl<|gL rfl hb8 ty4 rfl<|gO rfl hb8<|qT rfl hb8 rfl<|qA rfl<|Nl<|Wz ⟨.inl rfl,_,mt,Rc (Rt0 rfl) (Rv),aM,?_⟩
       exact ⟨by simp_all [retOf],rfl⟩
      ·
       try (have hb8p:=of_decide_eq_false hb8)
       try (have hb8q:=ne_of_beq_false hb8)
       refine qD rfl hb8 rfl<|qD rfl hb8 rfl<|qD rfl hb8 rfl<|qD rfl hb8 rfl<|qP rfl hb8 rfl<|qA rfl<|Nl<|Wz ⟨.inl rfl,_,mt,Rc (Rt0 rfl) (Rv),aM,?_⟩
       exact ⟨by simp_all [retOf],rfl⟩
     ·
      try (have hb7p:=of_decide_eq_false hb7)
      try (have hb7q:=ne_of_beq_false hb7)
      refine qD rfl hb7 rfl<|qD rfl hb7 rfl<|qD rfl hb7 rfl<|qP rfl hb7 rfl<|qM rfl<|qD rfl rfl rfl<|qD rfl rfl rfl<|qD rfl rfl rfl<|qD rfl rfl rfl<|qP rfl rfl rfl<|qA rfl<|Nl<|Wz ⟨.inl rfl,_,mt,Rc (Rt0 rfl) (Rv),aM,?_⟩
      exact ⟨by simp_all [retOf],rfl⟩
    ·
     try (have hb6p:=of_decide_eq_false hb6)
     try (have hb6q:=ne_of_beq_false hb6)
     refine qD rfl hb6 rfl<|qD rfl hb6 rfl<|qD rfl hb6 rfl<|qD rfl hb6 rfl<|qP rfl hb6 rfl<|qM rfl<|qD rfl rfl rfl<|qD rfl rfl rfl<|qD rfl rfl rfl<|qP rfl rfl rfl<|qM rfl<|qD rfl rfl rfl<|qD rfl rfl rfl<|qD rfl rfl rfl<|qD rfl rfl rfl<|qP rfl rfl rfl<|qA rfl<|Nl<|Wz ⟨.inl rfl,_,mt,Rc (Rt0 rfl) (Rv),aM,?_⟩
     exact ⟨by simp_all [retOf],rfl⟩
   ·
    try (have hb5p:=of_decide_eq_false hb5)
    try (have hb5q:=ne_of_beq_false hb5)
    refine qD rfl hb5 rfl<|qD rfl hb5 rfl<|qD rfl hb5 rfl<|qP rfl hb5 rfl<|qM rfl<|qD rfl rfl rfl<|qD rfl rfl rfl<|qD rfl rfl rfl<|qD rfl rfl rfl<|qP rfl rfl rfl<|qM rfl<|qD rfl rfl rfl<|qD rfl rfl rfl<|qD rfl rfl rfl<|qP rfl rfl rfl<|qM rfl<|qD rfl rfl rfl<|qD rfl rfl rfl<|qD rfl rfl rfl<|qD rfl rfl rfl<|qP rfl rfl rfl<|qA rfl<|Nl<|Wz ⟨.inl rfl,_,mt,Rc (Rt0 rfl) (Rv),aM,?_⟩
    exact ⟨by simp_all [retOf],rfl⟩
def grpE (m:List Int):Bool:=bitV .and .u8 (gB m 0) 1 == 1
theorem grpE_any (m:List Int) (hl:m.length=6):AFn Tryz.prog 73 0 [.agg (bytesC m)] mt (.base (.bool (grpE m))) mt:=by
 refine AFn.eq Tryz.func73 rfl rfl (Nat.le_of_ble_eq_true rfl)<|Wq<|qW 0 2 rfl<|qC rfl<|qA rfl<|Nl<|Wq<|qW 6 11 rfl<|Od rfl rfl (Ir rfl rfl rfl rfl ty23 ty5 (by decide))<|Od rfl rfl (Ld rfl rfl rfl (by_at0 (by rw [hl];decide)) ty5 rfl)<|Od rfl rfl (LO.and rfl rfl rfl)<|qE rfl<|qA rfl<|Nl<|Wz ⟨.inl rfl,_,mt,Rc (Rt0 rfl) (Rv),aM,?_⟩
 exact ⟨rfl,rfl⟩
def bcM:List Int:=[255,255,255,255,255,255]
theorem bcE_any:AFn Tryz.prog 114 0 [] mt (.agg (bytesC bcM)) mt:=by
 refine AFn.eq Tryz.func114 rfl rfl (Nat.le_of_ble_eq_true rfl)<|Wq<|qW 0 1 rfl<|qB rfl ty23<|Nl<|Wq<|qW 5 7 rfl<|Od rfl rfl (LO.build_ar rfl ty23 ty5 (.cons rfl rfl rfl rfl (Sl rfl) (.cons rfl rfl rfl rfl (Sl rfl) (.cons rfl rfl rfl rfl (Sl rfl) (.cons rfl rfl rfl rfl (Sl rfl) (.cons rfl rfl rfl rfl (Sl rfl) (.cons rfl rfl rfl rfl (Sl rfl) .nil)))))))<|qS rfl ty23 (Sl rfl) rfl<|Nl<|Wz ⟨.inl rfl,_,mt,(Rc (Ra0 rfl rfl ty23 rfl (Tl rfl)) Rv),aM,?_⟩
 exact ⟨rfl,rfl⟩
theorem bcX_any:AFn Tryz.prog 39 0 [] mt (.agg (bytesC bcM)) mt:=by
 refine AFn.eq Tryz.func39 rfl rfl (Nat.le_of_ble_eq_true rfl)<|Wq<|qW 0 1 rfl<|qB rfl ty23<|Nl<|Wq<|qW 5 7 rfl<|Od rfl rfl (LO.build_ar rfl ty23 ty5 (.cons rfl rfl rfl rfl (Sl rfl) (.cons rfl rfl rfl rfl (Sl rfl) (.cons rfl rfl rfl rfl (Sl rfl) (.cons rfl rfl rfl rfl (Sl rfl) (.cons rfl rfl rfl rfl (Sl rfl) (.cons rfl rfl rfl rfl (Sl rfl) .nil)))))))<|qS rfl ty23 (Sl rfl) rfl<|Nl<|Wz ⟨.inl rfl,_,mt,(Rc (Ra0 rfl rfl ty23 rfl (Tl rfl)) Rv),aM,?_⟩
 exact ⟨rfl,rfl⟩
def idxM (l:List (List Int)) (m:List Int):Int:=if m∈l then (l.idxOf m:Int) else -1
theorem idxM_at {l:List (List Int)} {m:List Int} {i:Nat} (h:i < l.length) (hno:∀ j,j < i→l[j]?≠some m) (e:m=l[i]):idxM l m=(i:Int):=by
 have hm:m∈l:=e ▸ List.getElem_mem h
 unfold idxM
 rw [if_pos hm]
 have h1:l.idxOf m≤i:=by
  rcases Nat.lt_or_ge i (l.idxOf m) with h2|h2
  ·have:=List.not_of_lt_findIdx (show i < l.findIdx (· == m) from h2)
   simp [← e] at this
  ·exact h2
 have h2:¬ l.idxOf m < i:=fun h3=>hno _ h3 (by rw [List.getElem?_eq_getElem (by omega)];simp)
 omega
theorem idxM_no {l:List (List Int)} {m:List Int} (hno:∀ j,j < l.length→l[j]?≠some m):idxM l m=-1:=by
 unfold idxM
 rw [if_neg fun hm=>by
  obtain ⟨j,hj,e⟩:=List.getElem_of_mem hm
  exact hno j hj (by rw [List.getElem?_eq_getElem hj,e])]
theorem idxM_nn (l:List (List Int)) (m:List Int):decide (idxM l m ≥ 0)=decide (m∈l):=by
 unfold idxM
 split
 ·rename_i h;simp [h];
 ·rename_i h;simp [h]
theorem no_nextM {l:List (List Int)} {v:List Int} {i:Nat} (hno:∀ j,j < i→l[j]?≠some v) (hc:i < l.length) (e:¬ v=l[i]):∀ j,j < i + 1→l[j]?≠some v:=fun j hj h=>by
 rcases Nat.lt_or_ge j i with h1|h1
 ·exact hno j h1 h
 ·obtain rfl:j=i:=by omega
  rw [List.getElem?_eq_getElem hc] at h
  injection h with h
  exact e h.symm
theorem idxM_any (l:List (List Int)) (m:List Int) (hl:∀ x,x∈l→x.length=6) (hm:m.length=6) (hn:l.length≤1000):AFn Tryz.prog 110 0 [.isl (macsC l) l.length,.agg (bytesC m)] mt (.base (.int .i64 (idxM l m))) mt:=by
 refine AFn.eq Tryz.func110 rfl rfl (Nat.le_of_ble_eq_true rfl)<|Wq<|qW 0 2 rfl<|qC rfl<|qA rfl<|Nl<|Wq<|Wq<|qW 6 9 rfl<|qM rfl<|qH rfl ty36<|qM rfl<|Nl<|Wb<|W.rename [(0,0)] 1 (T':=up (up (up (up mt 0 (some (.isl (macsC l) l.length))) 3 (some (.own 0 0))) 7 (some (.base (.int .i64 (l.length:Int))))) 8 (some (.base (.int .i64 (0:Int))))) (H':=up mt 0 (some (bytesC m))) (by decide) ?_ ?_ ?_
 ·exact aU (lR rfl) (aU (lR rfl) (aU (lI rfl) (aU (lR rfl) aM)))
 ·exact aU (kP rfl (bytesC_pure _)) aM
 refine W.loop_ind (α:=Nat) (fun x=>l.length - x) 1 (fun x=>up (up (up (up mt 0 (some (.isl (macsC l) l.length))) 3 (some (.own 0 0))) 7 (some (.base (.int .i64 (l.length:Int))))) 8 (some (.base (.int .i64 (x:Int))))) (fun x=>up mt 0 (some (bytesC m))) (fun x=>x≤l.length∧∀ jj,jj < x→l[jj]?≠some m) 0 (show 0≤l.length∧∀ jj,jj < 0→l[jj]?≠some m from ⟨Nat.zero_le _,fun j h=>absurd h (Nat.not_lt_zero _)⟩) ?_
 rintro i hIA ihA
 try (dsimp only at hIA)
 try dsimp only
 obtain ⟨hi,hno⟩:=hIA
 by_cases hc:i < l.length
 ·have g1:decide ((i:Int) < (l.length:Int))=true:=decide_eq_true (by omega)
  have h6:=hl _ (List.getElem_mem hc)
  refine Wq<|qW 13 14 rfl<|qK rfl<|Nl<|Wq<|Wt rfl ‹_›<|Wu<|Wq<|Wb<|Wq<|qW 18 20 rfl<|qM rfl<|qA rfl<|Nl ?_
  by_cases e:m=l[i]
  ·have k1:decide (m=l[i])=true:=decide_eq_true e
   have hx:=idxM_at hc hno e
   refine Wq<|Wd 24 30 (by decide) rfl mixed rfl<|qG rfl ty23 rfl (bytes_tk hm)<|qM rfl<|qM rfl<|qJ rfl rfl ty36 ty23 (by omega)<|Od rfl rfl (Lg rfl rfl ty23 rfl (macs_tk hl hc))<|Od rfl rfl (LO.eql_mac m l[i] hm h6 rfl rfl rfl)<|Nl ⟨by kernel_rfl,(Wt rfl ‹_›<|Wq<|qW 34 36 rfl<|qM rfl<|qA rfl<|Nl<|Wz ⟨.inl rfl,_,mt,Rc (Rt0 rfl) (Rv),aM,?_⟩)⟩
   exact ⟨by rw [hx];rfl,rfl⟩
  ·have k1:decide (m=l[i])=false:=decide_eq_false e
   refine Wq<|Wd 24 30 (by decide) rfl mixed rfl<|qG rfl ty23 rfl (bytes_tk hm)<|qM rfl<|qM rfl<|qJ rfl rfl ty36 ty23 (by omega)<|Od rfl rfl (Lg rfl rfl ty23 rfl (macs_tk hl hc))<|Od rfl rfl (LO.eql_mac m l[i] hm h6 rfl rfl rfl)<|Nl ⟨by kernel_rfl,(Wo rfl ‹_›<|Wu<|qW 40 42 rfl<|qZ rfl (iW _ (by omega))<|qM rfl<|Nl<|WL.rename [(0,0)] 1 (by decide) ?_ ?_ (ihA (i + 1) (show l.length - (i + 1) < l.length - i from by omega) (show (i + 1)≤l.length∧∀ jj,jj < (i + 1)→l[jj]?≠some m from ⟨by omega,no_nextM hno hc e⟩)))⟩
   ·exact aU (lR rfl) (aU (lR rfl) (aU (lI rfl) (aU (lR rfl) aM)))
   ·exact aU (kP rfl (bytesC_pure _)) aM
 ·have g1:decide ((i:Int) < (l.length:Int))=false:=decide_eq_false (by omega)
  refine Wq<|qW 13 14 rfl<|qK rfl<|Nl<|Wq<|Wo rfl ‹_›<|Wx ?_
  obtain rfl:i=l.length:=by omega
  refine Wq<|qW 46 47 rfl<|qA rfl<|Nl<|Wz ⟨.inl rfl,_,mt,Rc (Rt0 rfl) (Rv),aM,?_⟩
  exact ⟨by rw [idxM_no hno];rfl,rfl⟩
theorem hasM_any (l:List (List Int)) (m:List Int) (hl:∀ x,x∈l→x.length=6) (hm:m.length=6) (hn:l.length≤1000):AFn Tryz.prog 61 0 [.isl (macsC l) l.length,.agg (bytesC m)] mt (.base (.bool (decide (m∈l)))) mt:=by
 refine AFn.eq Tryz.func61 rfl rfl (Nat.le_of_ble_eq_true rfl) ?_
 have hx:=idxM_any l m hl hm hn
 refine Wq<|qW 0 2 rfl<|qC rfl<|qA rfl<|Nl<|Wq<|qW 6 11 rfl<|qM rfl<|qG rfl ty23 rfl (bytes_tk hm)<|Od rfl rfl (C0 (fr:=[]) rfl rfl (hx) fok110 (.cons rfl (.pure rfl) (.cons rfl (.pure (bytesC_pure _)) .nil)) rfl)<|qGe rfl<|qA rfl<|Nl ?_
 rw [idxM_nn]
 refine Wz ⟨.inl rfl,_,mt,Rc (Rt0 rfl) (Rv),aM,?_⟩
 exact ⟨rfl,rfl⟩
def hdE (l:List Int):Bool:=(strOfNums l).toList == (strOfNums [0,1,8,0,6,4]).toList
def opOf (b:List Int):Int:=bitV .or .i64 (IntKind.i64.wrap (gB b 6 * 2 ^ (min (8:Int).toNat IntKind.i64.bits))) (gB b 7)
def arpOf (b:List Int):Arp:=⟨opOf b,(b.drop 8).take 6,fbA false ((b.drop 14).take 4),(b.drop 18).take 6,fbA false ((b.drop 24).take 4)⟩
def arpE (b:List Int):Int:=if b.length < 28 then 4 else if hdE (b.take 6) && arpV (arpOf b) then 0 else 5
def arpR (b:List Int):AV:=.tup [.agg (arpC (if arpE b=0 then arpOf b else zArp)),.base (.int .i64 (arpE b))]
theorem head28 {b:List Int} (h:28≤b.length):∃ a0 a1 a2 a3 a4 a5 a6 a7 a8 a9 a10 a11 a12 a13 a14 a15 a16 a17 a18 a19 a20 a21 a22 a23 a24 a25 a26 a27 r,b=a0::a1::a2::a3::a4::a5::a6::a7::a8::a9::a10::a11::a12::a13::a14::a15::a16::a17::a18::a19::a20::a21::a22::a23::a24::a25::a26::a27::r:=by
 have h1:b=b.take 28++b.drop 28:=(List.take_append_drop 28 b).symm
 have h2:(b.take 28).length=28:=by rw [List.length_take];omega
 generalize b.take 28=t at h1 h2
 match t,h2 with
 | [a0,a1,a2,a3,a4,a5,a6,a7,a8,a9,a10,a11,a12,a13,a14,a15,a16,a17,a18,a19,a20,a21,a22,a23,a24,a25,a26,a27],_=>exact ⟨_,_,_,_,_,_,_,_,_,_,_,_,_,_,_,_,_,_,_,_,_,_,_,_,_,_,_,_,_,h1⟩
theorem arpS (b:List Int) (h:b.length < 28):AFn Tryz.prog 111 0 [.isl (bytesC b) b.length] mt (arpR b) mt:=by
 refine AFn.eq Tryz.func111 rfl rfl (Nat.le_of_ble_eq_true rfl) ?_
 have g1:decide ((b.length:Int) < 28)=true:=decide_eq_true (by omega)
 have e1:arpR b=.tup [.agg (arpC zArp),.base (.int .i64 4)]:=by unfold arpR arpE;rw [if_pos h];rfl
 rw [e1]
 refine Wq<|qW 0 2 rfl<|qB rfl ty78<|qA rfl<|Nl<|Wq<|Wq<|qW 6 9 rfl<|qM rfl<|qH rfl ty24<|qK rfl<|Nl<|Wt rfl ‹_›<|Wq<|qW 13 16 rfl<|Od rfl rfl (Bs rfl ty78 .nil)<|qS rfl ty78 (Sl rfl) rfl<|qA rfl<|Nl<|Wz ⟨.inl rfl,_,mt,(Rc (Ra0 rfl rfl ty78 rfl (Tl rfl)) (Rc (Rt0 rfl) Rv)),aM,?_⟩
 exact ⟨rfl,rfl⟩
theorem eqB_any (a:List Int):AFn Tryz.prog 144 0 [.isl (bytesC a) a.length,.isl (bytesC [0,1,8,0,6,4]) 6] mt (.base (.bool (hdE a))) mt:=by
 refine AFn.eq Tryz.func144 rfl rfl (Nat.le_of_ble_eq_true rfl)<|Wq<|qW 0 1 rfl<|qA rfl<|Nl<|Wq<|qW 5 11 rfl<|qM rfl<|Od rfl rfl (LO.str (xs:=a) rfl rfl Tryz.underlying24 Tryz.underlying5 Tryz.underlying9)<|qM rfl<|Od rfl rfl (LO.str (xs:=[0,1,8,0,6,4]) rfl rfl Tryz.underlying24 Tryz.underlying5 Tryz.underlying9)<|Od rfl rfl (LO.eql_str rfl rfl rfl)<|qA rfl<|Nl<|Wz ⟨.inl rfl,_,mt,Rc (Rt0 rfl) (Rv),aM,?_⟩
 exact ⟨rfl,rfl⟩
set_option maxHeartbeats 2000000 in
theorem arpD (b:List Int) (hB:IsB b) (h:28≤b.length):AFn Tryz.prog 111 0 [.isl (bytesC b) b.length] mt (arpR b) mt:=by
 refine AFn.eq Tryz.func111 rfl rfl (Nat.le_of_ble_eq_true rfl) ?_
 obtain ⟨n,hn⟩:∃ n,b.length=n:=⟨_,rfl⟩
 have g1:decide ((n:Int) < 28)=false:=decide_eq_false (by omega)
 have h28:28≤n:=by omega
 have hal:(arpOf b).fm.length=6∧(arpOf b).tm.length=6:=by
  unfold arpOf
  constructor
  ·show ((b.drop 8).take 6).length=6
   rw [List.length_take,List.length_drop];omega
  ·show ((b.drop 18).take 6).length=6
   rw [List.length_take,List.length_drop];omega
 have hv:=arpV_any (arpOf b) hal.1 hal.2
 have f1:=from_any ((b.drop 14).take 4) (hB.drop 14 |>.take 4) (.inl (by rw [List.length_take,List.length_drop];omega))
 have f2:=from_any ((b.drop 24).take 4) (hB.drop 24 |>.take 4) (.inl (by rw [List.length_take,List.length_drop];omega))
 have hh:=eqB_any (b.take 6)
 obtain ⟨a0,a1,a2,a3,a4,a5,a6,a7,a8,a9,a10,a11,a12,a13,a14,a15,a16,a17,a18,a19,a20,a21,a22,a23,a24,a25,a26,a27,r,rfl⟩:=head28 h
 rw [hn]
 have b6:0≤a6∧a6≤255:=hB.at 6
 have b7:0≤a7∧a7≤255:=hB.at 7
 have f1:AFn Tryz.prog 143 0 [.isl (bytesC [a14,a15,a16,a17]) 4] mt (.tup [.agg (adC (fbA false [a14,a15,a16,a17])),.base (.int .i64 0)]) mt:=f1
 have f2:AFn Tryz.prog 143 0 [.isl (bytesC [a24,a25,a26,a27]) 4] mt (.tup [.agg (adC (fbA false [a24,a25,a26,a27])),.base (.int .i64 0)]) mt:=f2
 have hh:AFn Tryz.prog 144 0 [.isl (bytesC [a0,a1,a2,a3,a4,a5]) 6,.isl (bytesC [0,1,8,0,6,4]) 6] mt (.base (.bool (hdE [a0,a1,a2,a3,a4,a5]))) mt:=hh
 obtain ⟨op,hop⟩:∃ op,bitV .or .i64 (IntKind.i64.wrap (a6 * 2 ^ (min (8:Int).toNat IntKind.i64.bits))) a7=op:=⟨_,rfl⟩
 have ha:arpOf (a0::a1::a2::a3::a4::a5::a6::a7::a8::a9::a10::a11::a12::a13::a14::a15::a16::a17::a18::a19::a20::a21::a22::a23::a24::a25::a26::a27::r)=⟨op,[a8,a9,a10,a11,a12,a13],fbA false [a14,a15,a16,a17],[a18,a19,a20,a21,a22,a23],fbA false [a24,a25,a26,a27]⟩:=by rw [← hop];rfl
 have he:arpE (a0::a1::a2::a3::a4::a5::a6::a7::a8::a9::a10::a11::a12::a13::a14::a15::a16::a17::a18::a19::a20::a21::a22::a23::a24::a25::a26::a27::r)=if hdE [a0,a1,a2,a3,a4,a5] && arpV ⟨op,[a8,a9,a10,a11,a12,a13],fbA false [a14,a15,a16,a17],[a18,a19,a20,a21,a22,a23],fbA false [a24,a25,a26,a27]⟩ then 0 else 5:=by
  unfold arpE
  rw [if_neg (by omega),ha]
  rfl
 unfold arpR
 rw [ha] at hv ⊢
 rw [he]
 clear ha he hal hB h
 generalize fbA false [a14,a15,a16,a17]=fa at *
 generalize fbA false [a24,a25,a26,a27]=ta at *
 generalize hdE [a0,a1,a2,a3,a4,a5]=hd at *
 obtain ⟨v,hvv⟩:∃ v,arpV ⟨op,[a8,a9,a10,a11,a12,a13],fa,[a18,a19,a20,a21,a22,a23],ta⟩=v:=⟨_,rfl⟩
 rw [hvv] at hv ⊢
 have t24:Tk (bytesC (a0::a1::a2::a3::a4::a5::a6::a7::a8::a9::a10::a11::a12::a13::a14::a15::a16::a17::a18::a19::a20::a21::a22::a23::a24::a25::a26::a27::r)) (24 * 1) ((28 - 24) * 1) (bytesC [a24,a25,a26,a27]):=by
  show Tk _ 24 4 _
  iterate 24 refine Tk.skip ?_
  iterate 4 refine Tk.cons ?_
  exact Tk.nil
 refine Wq<|qW 0 2 rfl<|qB rfl ty78<|qA rfl<|Nl<|Wq<|Wq<|qW 6 9 rfl<|qM rfl<|qH rfl ty24<|qK rfl<|Nl<|Wo rfl ‹_›<|Wu<|Wq<|Wd 20 41 (by decide) rfl mixed rfl<|qM rfl<|qJ rfl rfl ty24 ty5 (by simp;omega)<|Od rfl rfl (Li rfl rfl rfl ty5 rfl)<|Od rfl rfl (Ci rfl rfl ty5 ty3 (iW _ (by omega)))<|Od rfl rfl (LO.shl rfl rfl rfl (by omega))<|qM rfl<|qJ rfl rfl ty24 ty5 (by simp;omega)<|Od rfl rfl (Li rfl rfl rfl ty5 rfl)<|Od rfl rfl (Ci rfl rfl ty5 ty3 (iW _ (by omega)))<|Od rfl rfl (LO.or rfl rfl rfl)<|qM rfl<|Od rfl rfl (Lsi rfl rfl rfl (Ba rfl rfl) (Ba rfl rfl) (by decide) (by simp;omega) ty24 ty5 (Tl rfl))<|Od rfl rfl (LO.toArr rfl rfl rfl ty23 (by decide) (by decide))<|Od rfl rfl (Lg rfl rfl ty23 rfl (Tl rfl))<|qM rfl<|Od rfl rfl (Lsi rfl rfl rfl (Ba rfl rfl) (Ba rfl rfl) (by decide) (by simp;omega) ty24 ty5 (Tl rfl))<|Od rfl rfl (LO.toArr rfl rfl rfl ty23 (by decide) (by decide))<|Od rfl rfl (Lg rfl rfl ty23 rfl (Tl rfl))<|Od rfl rfl (Bs rfl ty78 (.cons rfl rfl rfl rfl (Sl rfl) (.cons rfl rfl rfl rfl (Sl rfl) (.cons rfl rfl rfl rfl (Sl rfl) .nil))))<|qB rfl ty78<|qS rfl ty78 (Sl rfl) rfl<|Nl ⟨by kernel_rfl,?_⟩
 rw [hop]
 refine Wq<|qW 45 53 rfl<|qM rfl<|Od rfl rfl (Lsi rfl rfl rfl (Ba rfl rfl) (Ba rfl rfl) (by decide) (by simp;omega) ty24 ty5 (Tl rfl))<|qY rfl (f1) fok143 rfl<|qM rfl<|qX rfl<|qX rfl<|qF rfl ty78 rfl<|qS rfl ty54 (Sl rfl) rfl<|Nl<|Wq<|qW 57 65 rfl<|qM rfl<|Od rfl rfl (Lsi rfl rfl rfl (Ba rfl rfl) (Ba rfl rfl) (by decide) (by omega) ty24 ty5 t24)<|qY rfl (f2) fok143 rfl<|qM rfl<|qX rfl<|qX rfl<|qF rfl ty78 rfl<|qS rfl ty54 (Sl rfl) rfl<|Nl ?_
 cases hd
 case' false =>
  refine Wq<|Wq<|Wd 69 79 (by decide) rfl mixed rfl<|qM rfl<|Od rfl rfl (Lsi rfl rfl rfl Bnd.no (Ba rfl rfl) (by omega) (by simp;omega) ty24 ty5 (Tl rfl))<|Od rfl rfl (LO.glob 0 rfl rfl rfl (LO.slice_imm rfl rfl ty22 ty5 (Tl rfl) (by decide)))<|qY rfl (hh) fok144 rfl<|qO rfl<|qM rfl<|qD rfl rfl rfl<|qD rfl rfl rfl<|qD rfl rfl rfl<|qT rfl rfl rfl<|Nl ⟨by kernel_rfl,(Wt rfl rfl<|Wq<|qW 83 86 rfl<|Od rfl rfl (Bs rfl ty78 .nil)<|qS rfl ty78 (Sl rfl) rfl<|qA rfl<|Nl<|Wz ⟨.inl rfl,_,mt,(Rc (Ra0 rfl rfl ty78 rfl (Tl rfl)) (Rc (Rt0 rfl) Rv)),aM,?_⟩)⟩
  exact ⟨rfl,rfl⟩
 case' true =>
  cases v
  case' false =>
   refine Wq<|Wq<|Wd 69 79 (by decide) rfl mixed rfl<|qM rfl<|Od rfl rfl (Lsi rfl rfl rfl Bnd.no (Ba rfl rfl) (by omega) (by simp;omega) ty24 ty5 (Tl rfl))<|Od rfl rfl (LO.glob 0 rfl rfl rfl (LO.slice_imm rfl rfl ty22 ty5 (Tl rfl) (by decide)))<|qY rfl (hh) fok144 rfl<|qO rfl<|qM rfl<|gG rfl rfl ty78 rfl (Tl rfl)<|gY rfl rfl (hv) fok145 rfl<|gO rfl rfl<|qP rfl rfl rfl<|Nl ⟨by kernel_rfl,(Wt rfl rfl<|Wq<|qW 83 86 rfl<|Od rfl rfl (Bs rfl ty78 .nil)<|qS rfl ty78 (Sl rfl) rfl<|qA rfl<|Nl<|Wz ⟨.inl rfl,_,mt,(Rc (Ra0 rfl rfl ty78 rfl (Tl rfl)) (Rc (Rt0 rfl) Rv)),aM,?_⟩)⟩
   exact ⟨rfl,rfl⟩
  case' true =>
   refine Wq<|Wq<|Wd 69 79 (by decide) rfl mixed rfl<|qM rfl<|Od rfl rfl (Lsi rfl rfl rfl Bnd.no (Ba rfl rfl) (by omega) (by simp;omega) ty24 ty5 (Tl rfl))<|Od rfl rfl (LO.glob 0 rfl rfl rfl (LO.slice_imm rfl rfl ty22 ty5 (Tl rfl) (by decide)))<|qY rfl (hh) fok144 rfl<|qO rfl<|qM rfl<|gG rfl rfl ty78 rfl (Tl rfl)<|gY rfl rfl (hv) fok145 rfl<|gO rfl rfl<|qP rfl rfl rfl<|Nl ⟨by kernel_rfl,(Wo rfl rfl<|Wu<|Wq<|qW 90 93 rfl<|qG rfl ty78 rfl (Tl rfl)<|qS rfl ty78 (Sl rfl) rfl<|qA rfl<|Nl<|Wz ⟨.inl rfl,_,mt,(Rc (Ra0 rfl rfl ty78 rfl (Tl rfl)) (Rc (Rt0 rfl) Rv)),aM,?_⟩)⟩
   exact ⟨rfl,rfl⟩
theorem arp_any (b:List Int) (hB:IsB b):AFn Tryz.prog 111 0 [.isl (bytesC b) b.length] mt (arpR b) mt:=by
 rcases Nat.lt_or_ge b.length 28 with h|h
 ·exact arpS b h
 ·exact arpD b hB h
structure Fr where
 dst:List Int
 src:List Int
 vl:Int
 ty:Int
 data:List Int
def frC (f:Fr):List AV:=bytesC f.dst++bytesC f.src++[.base (.int .i64 f.vl),.base (.int .i64 f.ty),.isl (bytesC f.data) f.data.length]
structure FrOk (f:Fr):Prop where
 d6:f.dst.length=6
 s6:f.src.length=6
 bB:IsB f.data
 bl:f.data.length≤100000
theorem six_of {l:List Int} (h:l.length=6):∃ a b c d e f,l=[a,b,c,d,e,f]:=by
 match l,h with
 | [a,b,c,d,e,f],_=>exact ⟨_,_,_,_,_,_,rfl⟩
theorem dcP_ok (b:List Int) (hB:IsB b):IsB (dcP b).bs∧(U64 (dcP b).s.hi∧U64 (dcP b).s.lo)∧U64 (dcP b).d.hi∧U64 (dcP b).d.lo:=by
 unfold dcP
 split
 ·exact ⟨(hB.drop _).take _,fb_bd _,fb_bd _⟩
 ·exact ⟨(hB.drop _).take _,fb_bd _,fb_bd _⟩
theorem decR_len6 (p:Pk):(decR p).1.ln.length=6:=by
 have hz:zNb.ln.length=6:=rfl
 unfold decR
 split
 ·exact hz
 ·unfold rdB
  split
  ·exact hz
  ·split
   ·exact hz
   ·split
    ·exact hz
    ·rename_i r hr
     split
     ·exact hz
     ·exact optF_len _ _ _ _ _ (show zMac.length=6 from rfl) r hr
end Go.Proofs.YtlcndmciognneaaGreatDoor
namespace Go.Proofs.YtlcndmciognneaaGreatDoor
open Go.ChangeShapes Go.WideShapes Go.ChangeAt Go.RowKit
section
variable {H:Type} {enc:TypeId × Value→H}
end
end Go.Proofs.YtlcndmciognneaaGreatDoor
namespace Go.Proofs.YtlcndmciognneaaGreatDoor
open Go.RowKit
theorem nextV_bd (l:List Int) (at_:Nat) (n:Int) (hn:1≤n):0≤nextV l at_ n∧nextV l at_ n < n:=by
 unfold nextV
 split
 ·exact ⟨Int.emod_nonneg _ (by omega),Int.emod_lt_of_pos _ (by omega)⟩
 ·omega
end Go.Proofs.YtlcndmciognneaaGreatDoor
namespace Go.Proofs.YtlcndmciognneaaGreatDoor
open Go.RowKit
def GoodN (n:Nb):Prop:=(n.ln.length=6∧IsB n.ln)∧U64 n.tg.hi∧U64 n.tg.lo
def GoodA (a:Ad):Prop:=U64 a.hi∧U64 a.lo
theorem zMac_isB:IsB zMac:=fun x hx=>by
 simp only [zMac,List.mem_cons,List.not_mem_nil,or_false] at hx
 rcases hx with rfl|rfl|rfl|rfl|rfl|rfl<;>decide
end Go.Proofs.YtlcndmciognneaaGreatDoor
namespace Go.Proofs.YtlcndmciognneaaGreatDoor
open Go.ChangeShapes Go.WideShapes Go.ChangeAt Go.RowKit
theorem glob_of_head {W : World} {cs : Array Value} {fuel : Nat} {p : List MemPlace} (hv1 : W.var? Tryz.prog "exchangepoint/arp.head" = some cs) (hd1 : DataW.trod (fun _ => ()) Tryz.prog W 0 (fun _ => true) false fuel 22 cs.toList = some (Rows.laid_exchangepoint_arp_head, p)) : Glob (fun _ => False) W := by
 obtain ⟨ks,e1,e2⟩:=open_u8s Tryz.underlying22 (by kernel_rfl) hd1
 rw [show (Rows.laid_exchangepoint_arp_head:DataW Unit)=.agg (([0,1,8,0,6,4]:List Int).map fun k=>.lit (.int .u8 k)) from rfl] at e2
 have e3:=lits_inj (DataW.agg.inj e2)
 subst e3
 obtain ⟨l⟩:=cs
 simp only at e1
 subst e1
 have hc:∀ i,W.cell? ⟨0,i,none⟩=_:=fun i=>World.var?_cell Tryz.gHead hv1 i
 have hlt:=World.block_lt_of_cell? W _ ((hc 0).trans (by rfl))
 intro g vs hg
 have hg1:g=0∧vs=([0,1,8,0,6,4]:List Int).map (Value.int .u8):=by
  unfold gRaw at hg
  split at hg
  ·injection hg with hg;exact ⟨rfl,hg.symm⟩
  ·cases hg
 obtain ⟨rfl,rfl⟩:=hg1
 refine ⟨hlt,fun h=>h,fun i v hv=>?_⟩
 rw [hc i,← hv,List.getElem?_toArray]
theorem glob_of_laid3 {W : World} (h : laidMetH Tryz.prog [("unicode/utf8.acceptRanges", Rows.laid_unicode_utf8_acceptRanges), ("exchangepoint/arp.head", Rows.laid_exchangepoint_arp_head), ("unicode/utf8.first", Rows.laid_unicode_utf8_first)] W) : Glob (fun _ => False) W := by
 rw [MakeChecks.laidMetH_plain _ _ _ (by kernel_rfl)] at h
 obtain ⟨ps,⟨g0,t0,cs0,f0,p0,q0,hg0,ht0,hv0,hd0,⟨g1,t1,cs1,f1,p1,q1,hg1,ht1,hv1,hd1,_,_⟩,_⟩,_,_⟩:=h
 obtain rfl:=Option.some.inj (Tryz.tHead.symm.trans (show (Tryz.prog.globals[0]?).map (·.type)=some t1 from by
  obtain rfl:=Option.some.inj (Tryz.gHead.symm.trans hg1)
  exact ht1))
 exact glob_of_head hv1 hd1
section
variable {H:Type} {enc:TypeId × Value→H}
end
end Go.Proofs.YtlcndmciognneaaGreatDoor
namespace Go.Proofs.YtlcndmciognneaaGreatDoor
open Go.RowKit
end Go.Proofs.YtlcndmciognneaaGreatDoor
namespace Go.Proofs.YtlcndmciognneaaGreatDoor
open Go.RowKit
end Go.Proofs.YtlcndmciognneaaGreatDoor
namespace Go.Proofs.YtlcndmciognneaaGreatDoor
open Go.RowKit
def reqA (m:List Int) (s d:Ad):Arp:=⟨1,m,s,[0,0,0,0,0,0],d⟩
theorem request_any (m:List Int) (s d:Ad) (hm:m.length=6):AFn Tryz.prog 69 0 [.agg (bytesC m),.agg (adC s),.agg (adC d)] mt (.agg (arpC (reqA m s d))) mt:=by
 refine AFn.eq Tryz.func69 rfl rfl (Nat.le_of_ble_eq_true rfl) ?_
 obtain ⟨m0,m1,m2,m3,m4,m5,rfl⟩:=six_of hm
 refine Wq<|qW 0 4 rfl<|qC rfl<|qC rfl<|qC rfl<|qB rfl ty78<|Nl<|Wq<|qW 8 13 rfl<|qG rfl ty23 rfl (Tl rfl)<|qG rfl ty54 rfl (Tl rfl)<|qG rfl ty54 rfl (Tl rfl)<|Od rfl rfl (Bs rfl ty78 (.cons rfl rfl rfl rfl (Sl rfl) (.cons rfl rfl rfl rfl (Sl rfl) (.cons rfl rfl rfl rfl (Sl rfl) (.cons rfl rfl rfl rfl (Sl rfl) .nil)))))<|qS rfl ty78 (Sl rfl) rfl<|Nl<|Wz ⟨.inl rfl,_,mt,(Rc (Ra0 rfl rfl ty78 rfl (Tl rfl)) Rv),aM,?_⟩
 exact ⟨rfl,rfl⟩
theorem arpX_yes (a:Arp) (h1:a.fm.length=6) (h2:a.tm.length=6) (hv:arpV a=true):AFn Tryz.prog 123 0 [.agg (arpC a)] mt (.base (.bool true)) mt:=by
 refine AFn.eq Tryz.func123 rfl rfl (Nat.le_of_ble_eq_true rfl) ?_
 have v1:=rvalid_any a.fr
 have v2:=rvalid_any a.tt
 obtain ⟨op,fm,⟨f6,fh,fl⟩,tm,⟨t6,th,tl⟩⟩:=a
 unfold arpV ip4 at hv
 simp only [Bool.and_eq_true,Bool.or_eq_true,Bool.not_eq_true'] at hv
 obtain ⟨hop,⟨e1,e2⟩,e3,e4⟩:=hv
 dsimp only at h1 h2 v1 v2 e1 e2 e3 e4
 rw [e1] at v1
 rw [e3] at v2
 subst e2 e4
 obtain ⟨m0,m1,m2,m3,m4,m5,rfl⟩:=six_of h1
 obtain ⟨n0,n1,n2,n3,n4,n5,rfl⟩:=six_of h2
 refine Wq<|qW 0 2 rfl<|qC rfl<|qA rfl<|Nl ?_
 cases k1:(op == 1)
 case' true =>
  refine Wq<|qW 6 37 rfl<|qF rfl ty78 rfl<|qL rfl ty3 rfl<|qE rfl<|qM rfl<|qD rfl ‹_› rfl<|qD rfl ‹_› rfl<|qD rfl ‹_› rfl<|qT rfl ‹_› rfl<|qM rfl<|gF rfl rfl ty78 rfl<|gG rfl rfl ty54 rfl (Tl rfl)<|gY rfl rfl (v1) fok125 rfl<|qT rfl rfl rfl<|qM rfl<|gF rfl rfl ty78 rfl<|gG rfl rfl ty54 rfl (Tl rfl)<|gY rfl rfl (v2) fok125 rfl<|qT rfl rfl rfl<|qM rfl<|gF rfl rfl ty78 rfl<|gF rfl rfl ty54 rfl<|gL rfl rfl ty4 rfl<|gO rfl rfl<|qT rfl rfl rfl<|qM rfl<|gF rfl rfl ty78 rfl<|gF rfl rfl ty54 rfl<|gL rfl rfl ty4 rfl<|gO rfl rfl<|qT rfl rfl rfl<|qA rfl<|Nl<|Wz ⟨.inl rfl,_,mt,Rc (Rt0 rfl) (Rv),aM,?_⟩
  exact ⟨rfl,rfl⟩
 case' false =>
  have k2 : (op == 2) = true := by rcases hop with h | h; · rw [h] at k1; cases k1
                                   · exact h
  refine Wq<|qW 6 37 rfl<|qF rfl ty78 rfl<|qL rfl ty3 rfl<|qE rfl<|qM rfl<|gF rfl ‹_› ty78 rfl<|gL rfl ‹_› ty3 rfl<|gE rfl ‹_›<|qP rfl ‹_› rfl<|qM rfl<|gF rfl ‹_› ty78 rfl<|gG rfl ‹_› ty54 rfl (Tl rfl)<|gY rfl ‹_› (v1) fok125 rfl<|qT rfl ‹_› rfl<|qM rfl<|gF rfl rfl ty78 rfl<|gG rfl rfl ty54 rfl (Tl rfl)<|gY rfl rfl (v2) fok125 rfl<|qT rfl rfl rfl<|qM rfl<|gF rfl rfl ty78 rfl<|gF rfl rfl ty54 rfl<|gL rfl rfl ty4 rfl<|gO rfl rfl<|qT rfl rfl rfl<|qM rfl<|gF rfl rfl ty78 rfl<|gF rfl rfl ty54 rfl<|gL rfl rfl ty4 rfl<|gO rfl rfl<|qT rfl rfl rfl<|qA rfl<|Nl<|Wz ⟨.inl rfl,_,mt,Rc (Rt0 rfl) (Rv),aM,?_⟩
  exact ⟨rfl,rfl⟩
def arpB (a:Arp):List Int:=[0,1,8,0,6,4,0,IntKind.u8.wrap a.op]++a.fm++addrL a.fr++a.tm++addrL a.tt
theorem arpB_len {a:Arp} (h1:a.fm.length=6) (h2:a.tm.length=6) (h3:a.fr.v6=false) (h4:a.tt.v6=false):(arpB a).length=28:=by
 unfold arpB
 simp [List.length_append,h1,h2,addrL_len,h3,h4]
set_option maxHeartbeats 2000000 in
theorem encO_any (a:Arp) (h1:a.fm.length=6) (h2:a.tm.length=6) (hv:arpV a=true) (u1:U64 a.fr.hi∧U64 a.fr.lo) (u2:U64 a.tt.hi∧U64 a.tt.lo):AFn Tryz.prog 68 0 [.agg (arpC a)] mt (.tup [.osl 0 0 28 1,.base (.int .i64 0)]) (up mt 0 (some (bytesC (arpB a)))):=by
 refine AFn.eq Tryz.func68 rfl rfl (Nat.le_of_ble_eq_true rfl) ?_
 have hva:=arpX_yes a h1 h2 hv
 unfold arpV ip4 at hv
 simp only [Bool.and_eq_true,Bool.or_eq_true,Bool.not_eq_true'] at hv
 obtain ⟨hop,⟨e1,e2⟩,e3,e4⟩:=hv
 have b1:=bytesX_any a.fr e1 u1.1 u1.2
 have b2:=bytesX_any a.tt e3 u2.1 u2.2
 have l1:=addrL_len a.fr
 have l2:=addrL_len a.tt
 rw [e2] at l1
 rw [e4] at l2
 unfold arpB
 obtain ⟨op,fm,fr,tm,tt⟩:=a
 dsimp only at *
 generalize addrL fr=L1 at *
 generalize addrL tt=L2 at *
 have l1:L1.length=4:=l1
 have l2:L2.length=4:=l2
 obtain ⟨x0,x1,x2,x3,rfl⟩:∃ a b c d,L1=[a,b,c,d]:=by
  match L1,l1 with
  | [a,b,c,d],_=>exact ⟨_,_,_,_,rfl⟩
 obtain ⟨y0,y1,y2,y3,rfl⟩:∃ a b c d,L2=[a,b,c,d]:=by
  match L2,l2 with
  | [a,b,c,d],_=>exact ⟨_,_,_,_,rfl⟩
 obtain ⟨m0,m1,m2,m3,m4,m5,rfl⟩:=six_of h1
 obtain ⟨n0,n1,n2,n3,n4,n5,rfl⟩:=six_of h2
 refine Wq<|qW 0 3 rfl<|qC rfl<|qA rfl<|qA rfl<|Nl<|Wq<|Wq<|qW 7 10 rfl<|qG rfl ty78 rfl (Tl rfl)<|qY rfl (hva) fok123 rfl<|qO rfl<|Nl<|Wo rfl rfl<|Wu<|W.frzo (t:=1) rfl rfl rfl<|Wq<|Wd 20 28 (by decide) rfl mixed rfl<|qI rfl ty78 rfl<|Od rfl rfl (Li rfl rfl rfl ty3 rfl)<|Od rfl rfl (LO.conv rfl rfl ty3 ty5)<|Od rfl rfl (LO.buildSlice rfl ty24 ty5 (by decide) (by decide) (.cons rfl rfl rfl rfl (Sl rfl) (.cons rfl rfl rfl rfl (Sl rfl) (.cons rfl rfl rfl rfl (Sl rfl) (.cons rfl rfl rfl rfl (Sl rfl) (.cons rfl rfl rfl rfl (Sl rfl) (.cons rfl rfl rfl rfl (Sl rfl) (.cons rfl rfl rfl rfl (Sl rfl) (.cons rfl rfl rfl rfl (Sl rfl) .nil)))))))))<|qI rfl ty78 rfl<|Od rfl rfl (LO.slice_imm rfl rfl ty23 ty5 (Tl rfl) (by decide))<|Od rfl rfl (Lap rfl rfl (Ssi rfl rfl rfl) rfl (Tl rfl) ty24 ty24 ty5 (by decide) (by omega) (by omega) (by decide))<|qA rfl<|Nl ⟨by kernel_rfl,(Wq<|Wd 32 41 (by decide) rfl mixed rfl<|qM rfl<|qI rfl ty78 rfl<|Od rfl rfl (Lg rfl rfl ty54 rfl (Tl rfl))<|Od rfl rfl (LO.callO (fr:=[]) rfl rfl (b1) fok85 (.cons rfl (.pure rfl) .nil) rfl (by decide))<|Od rfl rfl (Lap rfl rfl (Sso rfl rfl (Tl rfl)) rfl (Tl rfl) ty24 ty24 ty5 (by decide) (by omega) (by omega) (by decide))<|qI rfl ty78 rfl<|Od rfl rfl (LO.slice_imm rfl rfl ty23 ty5 (Tl rfl) (by decide))<|Od rfl rfl (Lap rfl rfl (Ssi rfl rfl rfl) rfl (Tl rfl) ty24 ty24 ty5 (by decide) (by omega) (by omega) (by decide))<|qA rfl<|Nl ⟨by kernel_rfl,(Wq<|qW 45 52 rfl<|qM rfl<|qI rfl ty78 rfl<|Od rfl rfl (Lg rfl rfl ty54 rfl (Tl rfl))<|Od rfl rfl (LO.callO (fr:=[]) rfl rfl (b2) fok85 (.cons rfl (.pure rfl) .nil) rfl (by decide))<|Od rfl rfl (Lap rfl rfl (Sso rfl rfl (Tl rfl)) rfl (Tl rfl) ty24 ty24 ty5 (by decide) (by omega) (by omega) (by decide))<|qA rfl<|qA rfl<|Nl<|W.rename [(0,49)] 1 (T':=up (up mt 3 (some (.base (.int .i64 0)))) 2 (some (.osl 0 0 28 1))) (H':=up mt 0 (some (bytesC ([0,1,8,0,6,4,0,IntKind.u8.wrap op]++[m0,m1,m2,m3,m4,m5]++[x0,x1,x2,x3]++[n0,n1,n2,n3,n4,n5]++[y0,y1,y2,y3])))) (by decide) ?_ ?_ ?_)⟩)⟩
 ·exact aU (lI rfl) (aU (lR rfl) aM)
 ·exact aU (kR rfl) aM
 refine Wz ⟨.inl rfl,_,up mt 0 (some (bytesC ([0,1,8,0,6,4,0,IntKind.u8.wrap op]++[m0,m1,m2,m3,m4,m5]++[x0,x1,x2,x3]++[n0,n1,n2,n3,n4,n5]++[y0,y1,y2,y3]))),Rc (Rt0 rfl) (Rc (Rt0 rfl) Rv),aU rfl aM,?_⟩
 exact ⟨rfl,rfl⟩
theorem encA_any (a:Arp) (h1:a.fm.length=6) (h2:a.tm.length=6) (hv:arpV a=true) (u1:U64 a.fr.hi∧U64 a.fr.lo) (u2:U64 a.tt.hi∧U64 a.tt.lo):AFn Tryz.prog 68 0 [.agg (arpC a)] mt (.tup [.isl (bytesC (arpB a)) 28,.base (.int .i64 0)]) mt:=by
 refine AFn.frozenT (encO_any a h1 h2 hv u1 u2) (bytes_tk ?_) (bytesC_pure _)
 unfold arpV ip4 at hv
 simp only [Bool.and_eq_true,Bool.or_eq_true,Bool.not_eq_true'] at hv
 exact arpB_len h1 h2 hv.2.1.2 hv.2.2.2
end Go.Proofs.YtlcndmciognneaaGreatDoor
