/-
  Reading a message of address resolution; which port a station or an address belongs to. Copies of bytes; which port a frame goes to. Frames, as they come in. Reading a message of address resolution, by the document. Where a frame goes. Requests and their bytes. Numbers from the list: a number of a range, an address.
-/
import Derived.Test.YtlcndmciognneaaGreatDoorJn
import Derived.Test.YtlcndmciognneaaGreatDoorMab
import Derived.Test.YtlcndmciognneaaGreatDoorCz
import Derived.Test.YtlcndmciognneaaGreatDoorQd
import Derived.Test.YtlcndmciognneaaGreatDoorQa
namespace Go.Proofs.YtlcndmciognneaaGreatDoor
open Go.RowKit
def hdE (l:List Int):Bool:=(strOfNums l).toList == (strOfNums [0,1,8,0,6,4]).toList
def opOf (b:List Int):Int:=bitV .or .i64 (IntKind.i64.wrap (gB b 6 * 2 ^ (min (8:Int).toNat IntKind.i64.bits))) (gB b 7)
def arpOf (b:List Int):Arp:=⟨opOf b,(b.drop 8).take 6,fbA false ((b.drop 14).take 4),(b.drop 18).take 6,fbA false ((b.drop 24).take 4)⟩
def arpE (b:List Int):Int:=if b.length < 28 then 4 else if hdE (b.take 6) && arpV (arpOf b) then 0 else 5
def arpR (b:List Int):AV:=.tup [.agg (arpC (if arpE b=0 then arpOf b else zArp)),.base (.int .i64 (arpE b))]
theorem head28 {b:List Int} (h:28≤b.length):∃ a0 a1 a2 a3 a4 a5 a6 a7 a8 a9 a10 a11 a12 a13 a14 a15 a16 a17 a18 a19 a20 a21 a22 a23 a24 a25 a26 a27 r,b=a0::a1::a2::a3::a4::a5::a6::a7::a8::a9::a10::a11::a12::a13::a14::a15::a16::a17::a18::a19::a20::a21::a22::a23::a24::a25::a26::a27::r:=by
  have h1:b=b.take 28++b.drop 28:=(List.take_append_drop 28 b).symm
  have h2:(b.take 28).length=28:=by rw [List.length_take];omega
  generalize b.take 28=t at h1 h2
  match t,h2 with
  | [a0,a1,a2,a3,a4,a5,a6,a7,a8,a9,a10,a11,a12,a13,a14,a15,a16,a17,a18,a19,a20,a21,a22,a23,a24,a25,a26,a27],_=>exact ⟨_,_,_,_,_,_,_,_,_,_,_,_,_,_,_,_,_,_,_,_,_,_,_,_,_,_,_,_,_,h1⟩
theorem arpS (b:List Int) (h:b.length < 28):AFn Tryz.prog 111 0 [.isl (bytesC b) b.length] mt (arpR b) mt:=by
  refine AFn.eq Tryz.func111 rfl rfl (Nat.le_of_ble_eq_true rfl) ?_
  have g1:decide ((b.length:Int) < 28)=true:=decide_eq_true (by omega)
  have e1:arpR b=.tup [.agg (arpC zArp),.base (.int .i64 4)]:=by unfold arpR arpE;rw [if_pos h];rfl
  rw [e1]
  refine Wq (qW 0 2 rfl (qB rfl ty78 (qA rfl (Nl (Wq (Wq (qW 6 9 rfl (qM rfl (qH rfl ty24 (qK rfl (Nl (Wt rfl ‹_› (Wq (qW 13 16 rfl (Od rfl rfl (Bs rfl ty78 .nil) (qS rfl ty78 (Sl rfl) rfl (qA rfl (Nl ?_))))))))))))))))))
  refine W.ret ⟨.inl rfl,_,mt,(RVs.cons (RV.cellA rfl rfl ty78 rfl (Tk.lit rfl)) (RVs.cons (RV.tmp rfl) RVs.nil)),(by (repeat' (first|exact all_mt|refine all_up ?_ ?_))<;>rfl),?_⟩
  exact ⟨rfl,rfl⟩
theorem eqB_any (a:List Int):AFn Tryz.prog 144 0 [.isl (bytesC a) a.length,.isl (bytesC [0,1,8,0,6,4]) 6] mt (.base (.bool (hdE a))) mt:=by
  refine AFn.eq Tryz.func144 rfl rfl (Nat.le_of_ble_eq_true rfl) (Wq (qW 0 1 rfl (qA rfl (Nl (Wq (qW 5 11 rfl (qM rfl (Od rfl rfl (LO.str (xs:=a) rfl rfl Tryz.underlying24 Tryz.underlying5 Tryz.underlying9) (qM rfl (Od rfl rfl (LO.str (xs:=[0,1,8,0,6,4]) rfl rfl Tryz.underlying24 Tryz.underlying5 Tryz.underlying9) (Od rfl rfl (LO.eql_str rfl rfl rfl) (qA rfl (Nl (Wz ⟨.inl rfl,_,mt,Rc (Rt rfl) (Rv),aM,?_⟩))))))))))))))
  exact ⟨rfl,rfl⟩
set_option maxHeartbeats 2000000 in
theorem arpD (b:List Int) (hB:IsB b) (h:28≤b.length):AFn Tryz.prog 111 0 [.isl (bytesC b) b.length] mt (arpR b) mt:=by
  refine AFn.eq Tryz.func111 rfl rfl (Nat.le_of_ble_eq_true rfl) ?_
  obtain ⟨n,hn⟩:∃ n,b.length=n:=⟨_,rfl⟩
  have g1:decide ((n:Int) < 28)=false:=decide_eq_false (by omega)
  have h28:28≤n:=by omega
  have hal:(arpOf b).fm.length=6∧(arpOf b).tm.length=6:=by
    unfold arpOf
    constructor
    · show ((b.drop 8).take 6).length=6
      rw [List.length_take,List.length_drop];omega
    · show ((b.drop 18).take 6).length=6
      rw [List.length_take,List.length_drop];omega
  have hv:=arpV_any (arpOf b) hal.1 hal.2
  have f1:=from_any ((b.drop 14).take 4) (hB.drop 14 |>.take 4) (.inl (by rw [List.length_take,List.length_drop];omega))
  have f2:=from_any ((b.drop 24).take 4) (hB.drop 24 |>.take 4) (.inl (by rw [List.length_take,List.length_drop];omega))
  have hh:=eqB_any (b.take 6)
  obtain ⟨a0,a1,a2,a3,a4,a5,a6,a7,a8,a9,a10,a11,a12,a13,a14,a15,a16,a17,a18,a19,a20,a21,a22,a23,a24,a25,a26,a27,r,rfl⟩:=head28 h
  rw [hn]
  have b6:0≤a6∧a6≤255:=hB.at 6
  have b7:0≤a7∧a7≤255:=hB.at 7
  have f1:AFn Tryz.prog 143 0 [.isl (bytesC [a14,a15,a16,a17]) 4] mt (.tup [.agg (adC (fbA false [a14,a15,a16,a17])),.base (.int .i64 0)]) mt:=f1
  have f2:AFn Tryz.prog 143 0 [.isl (bytesC [a24,a25,a26,a27]) 4] mt (.tup [.agg (adC (fbA false [a24,a25,a26,a27])),.base (.int .i64 0)]) mt:=f2
  have hh:AFn Tryz.prog 144 0 [.isl (bytesC [a0,a1,a2,a3,a4,a5]) 6,.isl (bytesC [0,1,8,0,6,4]) 6] mt (.base (.bool (hdE [a0,a1,a2,a3,a4,a5]))) mt:=hh
  obtain ⟨op,hop⟩:∃ op,bitV .or .i64 (IntKind.i64.wrap (a6 * 2 ^ (min (8:Int).toNat IntKind.i64.bits))) a7=op:=⟨_,rfl⟩
  have ha:arpOf (a0::a1::a2::a3::a4::a5::a6::a7::a8::a9::a10::a11::a12::a13::a14::a15::a16::a17::a18::a19::a20::a21::a22::a23::a24::a25::a26::a27::r)=⟨op,[a8,a9,a10,a11,a12,a13],fbA false [a14,a15,a16,a17],[a18,a19,a20,a21,a22,a23],fbA false [a24,a25,a26,a27]⟩:=by rw [← hop];rfl
  have he:arpE (a0::a1::a2::a3::a4::a5::a6::a7::a8::a9::a10::a11::a12::a13::a14::a15::a16::a17::a18::a19::a20::a21::a22::a23::a24::a25::a26::a27::r)=if hdE [a0,a1,a2,a3,a4,a5] && arpV ⟨op,[a8,a9,a10,a11,a12,a13],fbA false [a14,a15,a16,a17],[a18,a19,a20,a21,a22,a23],fbA false [a24,a25,a26,a27]⟩ then 0 else 5:=by
    unfold arpE
    rw [if_neg (by omega),ha]
    rfl
  unfold arpR
  rw [ha] at hv ⊢
  rw [he]
  clear ha he hal hB h
  generalize fbA false [a14,a15,a16,a17]=fa at *
  generalize fbA false [a24,a25,a26,a27]=ta at *
  generalize hdE [a0,a1,a2,a3,a4,a5]=hd at *
  obtain ⟨v,hvv⟩:∃ v,arpV ⟨op,[a8,a9,a10,a11,a12,a13],fa,[a18,a19,a20,a21,a22,a23],ta⟩=v:=⟨_,rfl⟩
  rw [hvv] at hv ⊢
  have t24:Tk (bytesC (a0::a1::a2::a3::a4::a5::a6::a7::a8::a9::a10::a11::a12::a13::a14::a15::a16::a17::a18::a19::a20::a21::a22::a23::a24::a25::a26::a27::r)) (24 * 1) ((28 - 24) * 1) (bytesC [a24,a25,a26,a27]):=by
    show Tk _ 24 4 _
    iterate 24 refine Tk.skip ?_
    iterate 4 refine Tk.cons ?_
    exact Tk.nil
  refine Wq (qW 0 2 rfl (qB rfl ty78 (qA rfl (Nl (Wq (Wq (qW 6 9 rfl (qM rfl (qH rfl ty24 (qK rfl (Nl (Wo rfl ‹_› (Wu (Wq (Wd 20 41 (by decide) rfl mixed rfl (qM rfl (qJ rfl rfl ty24 ty5 (by simp;omega) (Od rfl rfl (Li rfl rfl rfl ty5 rfl) (Od rfl rfl (Ci rfl rfl ty5 ty3 (iW _ (by omega))) (Od rfl rfl (LO.shl rfl rfl rfl (by omega)) (qM rfl (qJ rfl rfl ty24 ty5 (by simp;omega) (Od rfl rfl (Li rfl rfl rfl ty5 rfl) (Od rfl rfl (Ci rfl rfl ty5 ty3 (iW _ (by omega))) (Od rfl rfl (LO.or rfl rfl rfl) (qM rfl (Od rfl rfl (Lsi rfl rfl rfl (Ba rfl rfl) (Ba rfl rfl) (by decide) (by simp;omega) ty24 ty5 (Tl rfl)) (Od rfl rfl (LO.toArr rfl rfl rfl ty23 (by decide) (by decide)) (Od rfl rfl (Lg rfl rfl ty23 rfl (Tl rfl)) (qM rfl (Od rfl rfl (Lsi rfl rfl rfl (Ba rfl rfl) (Ba rfl rfl) (by decide) (by simp;omega) ty24 ty5 (Tl rfl)) (Od rfl rfl (LO.toArr rfl rfl rfl ty23 (by decide) (by decide)) (Od rfl rfl (Lg rfl rfl ty23 rfl (Tl rfl)) (Od rfl rfl (Bs rfl ty78 (.cons rfl rfl rfl rfl (Sl rfl) (.cons rfl rfl rfl rfl (Sl rfl) (.cons rfl rfl rfl rfl (Sl rfl) .nil)))) (qB rfl ty78 (qS rfl ty78 (Sl rfl) rfl (Nl ⟨by kernel_rfl,?_⟩)))))))))))))))))))))))))))))))))))))
  rw [hop]
  refine Wq (qW 45 53 rfl (qM rfl (Od rfl rfl (Lsi rfl rfl rfl (Ba rfl rfl) (Ba rfl rfl) (by decide) (by simp;omega) ty24 ty5 (Tl rfl)) (qY rfl (f1) fok143 rfl (qM rfl (qX rfl (qX rfl (qF rfl ty78 rfl (qS rfl ty54 (Sl rfl) rfl (Nl (Wq (qW 57 65 rfl (qM rfl (Od rfl rfl (Lsi rfl rfl rfl (Ba rfl rfl) (Ba rfl rfl) (by decide) (by omega) ty24 ty5 t24) (qY rfl (f2) fok143 rfl (qM rfl (qX rfl (qX rfl (qF rfl ty78 rfl (qS rfl ty54 (Sl rfl) rfl (Nl ?_)))))))))))))))))))))
  cases hd
  case' false =>
    refine Wq (Wq (Wd 69 79 (by decide) rfl mixed rfl (qM rfl (Od rfl rfl (Lsi rfl rfl rfl Bnd.no (Ba rfl rfl) (by omega) (by simp;omega) ty24 ty5 (Tl rfl)) (Od rfl rfl (LO.glob 0 rfl rfl rfl (LO.slice_imm rfl rfl ty22 ty5 (Tl rfl) (by decide))) (qY rfl (hh) fok144 rfl (qO rfl (qM rfl (qD rfl rfl rfl (qD rfl rfl rfl (qD rfl rfl rfl (qT rfl rfl rfl (Nl ⟨by kernel_rfl,(Wt rfl rfl (Wq (qW 83 86 rfl (Od rfl rfl (Bs rfl ty78 .nil) (qS rfl ty78 (Sl rfl) rfl (qA rfl (Nl ?_)))))))⟩)))))))))))))
    refine W.ret ⟨.inl rfl,_,mt,(RVs.cons (RV.cellA rfl rfl ty78 rfl (Tk.lit rfl)) (RVs.cons (RV.tmp rfl) RVs.nil)),(by (repeat' (first|exact all_mt|refine all_up ?_ ?_))<;>rfl),?_⟩
    exact ⟨rfl,rfl⟩
  case' true =>
    cases v
    case' false =>
      refine Wq (Wq (Wd 69 79 (by decide) rfl mixed rfl (qM rfl (Od rfl rfl (Lsi rfl rfl rfl Bnd.no (Ba rfl rfl) (by omega) (by simp;omega) ty24 ty5 (Tl rfl)) (Od rfl rfl (LO.glob 0 rfl rfl rfl (LO.slice_imm rfl rfl ty22 ty5 (Tl rfl) (by decide))) (qY rfl (hh) fok144 rfl (qO rfl (qM rfl (qU rfl rfl rfl (La rfl rfl rfl ty78 rfl (Tl rfl)) (qU rfl rfl rfl (C0 (fr:=[]) rfl rfl (hv) fok145 (.cons rfl (.pure rfl) .nil) rfl) (qU rfl rfl rfl (Nt rfl rfl) (qP rfl rfl rfl (Nl ⟨by kernel_rfl,(Wt rfl rfl (Wq (qW 83 86 rfl (Od rfl rfl (Bs rfl ty78 .nil) (qS rfl ty78 (Sl rfl) rfl (qA rfl (Nl ?_)))))))⟩)))))))))))))
      refine W.ret ⟨.inl rfl,_,mt,(RVs.cons (RV.cellA rfl rfl ty78 rfl (Tk.lit rfl)) (RVs.cons (RV.tmp rfl) RVs.nil)),(by (repeat' (first|exact all_mt|refine all_up ?_ ?_))<;>rfl),?_⟩
      exact ⟨rfl,rfl⟩
    case' true =>
      refine Wq (Wq (Wd 69 79 (by decide) rfl mixed rfl (qM rfl (Od rfl rfl (Lsi rfl rfl rfl Bnd.no (Ba rfl rfl) (by omega) (by simp;omega) ty24 ty5 (Tl rfl)) (Od rfl rfl (LO.glob 0 rfl rfl rfl (LO.slice_imm rfl rfl ty22 ty5 (Tl rfl) (by decide))) (qY rfl (hh) fok144 rfl (qO rfl (qM rfl (qU rfl rfl rfl (La rfl rfl rfl ty78 rfl (Tl rfl)) (qU rfl rfl rfl (C0 (fr:=[]) rfl rfl (hv) fok145 (.cons rfl (.pure rfl) .nil) rfl) (qU rfl rfl rfl (Nt rfl rfl) (qP rfl rfl rfl (Nl ⟨by kernel_rfl,(Wo rfl rfl (Wu (Wq (qW 90 93 rfl (qG rfl ty78 rfl (Tl rfl) (qS rfl ty78 (Sl rfl) rfl (qA rfl (Nl ?_))))))))⟩)))))))))))))
      refine W.ret ⟨.inl rfl,_,mt,(RVs.cons (RV.cellA rfl rfl ty78 rfl (Tk.lit rfl)) (RVs.cons (RV.tmp rfl) RVs.nil)),(by (repeat' (first|exact all_mt|refine all_up ?_ ?_))<;>rfl),?_⟩
      exact ⟨rfl,rfl⟩
theorem arp_any (b:List Int) (hB:IsB b):AFn Tryz.prog 111 0 [.isl (bytesC b) b.length] mt (arpR b) mt:=by
  rcases Nat.lt_or_ge b.length 28 with h|h
  · exact arpS b h
  · exact arpD b hB h
/-- the first rule that has a station -/
def whereF:List Rl→List Int→Option Rl
  | [],_=>none
  | r::l,m=>if m∈r.macs then some r else whereF l m
def whereV (l:List Rl) (m:List Int):AV:=match whereF l m with
  | some r=>.tup [.base (.int .i64 r.port),.base (.bool true)]
  | none=>.tup [.base (.int .i64 0),.base (.bool false)]
theorem whereF_drop {l:List Rl} {m:List Int} {i:Nat} (h:i < l.length) (e:m ∉ l[i].macs):whereF (l.drop i) m=whereF (l.drop (i + 1)) m:=by
  rw [List.drop_eq_getElem_cons h]
  show (if m∈l[i].macs then some l[i] else whereF (l.drop (i + 1)) m)=_
  rw [if_neg e]
theorem whereF_at {l:List Rl} {m:List Int} {i:Nat} (h:i < l.length) (e:m∈l[i].macs):whereF (l.drop i) m=some l[i]:=by
  rw [List.drop_eq_getElem_cons h]
  show (if m∈l[i].macs then some l[i] else whereF (l.drop (i + 1)) m)=_
  rw [if_pos e]
theorem where_any (l:List Rl) (m:List Int) (hm:m.length=6) (hl:l.length≤100000) (hr:∀ r,r∈l→r.macs.length≤1000∧∀ x,x∈r.macs→x.length=6):AFn Tryz.prog 140 0 [.isl (rulesC l) l.length,.agg (bytesC m)] mt (whereV l m) mt:=by
  refine AFn.eq Tryz.func140 rfl rfl (Nat.le_of_ble_eq_true rfl) (Wq (qW 0 3 rfl (qC rfl (qA rfl (qA rfl (Nl (Wq (Wq (qW 7 10 rfl (qM rfl (qH rfl ty30 (qM rfl (Nl (Wb (W.rename [(0,0)] 1 (T':=up (up (up (up mt 3 (some (.own 0 0))) 8 (some (.isl (rulesC l) l.length))) 9 (some (.base (.int .i64 (l.length:Int))))) 10 (some (.base (.int .i64 (0:Int))))) (H':=up mt 0 (some (bytesC m))) (by decide) ?_ ?_ ?_)))))))))))))))
  · exact aU (lR rfl) (aU (lR rfl) (aU (lR rfl) (aU (lI rfl) aM)))
  · exact aU (⟨rfl,_,rfl,.inr ⟨rfl,by first|rfl|assumption|exact (bytesC_pure _)⟩⟩) aM
  refine W.loop_ind (α:=Nat) (fun x=>l.length - x) 1 (fun x=>up (up (up (up mt 3 (some (.own 0 0))) 8 (some (.isl (rulesC l) l.length))) 9 (some (.base (.int .i64 (l.length:Int))))) 10 (some (.base (.int .i64 (x:Int))))) (fun x=>up mt 0 (some (bytesC m))) (fun x=>x≤l.length∧whereF l m=whereF (l.drop x) m) 0 (show 0≤l.length∧whereF l m=whereF (l.drop 0) m from ⟨Nat.zero_le _,rfl⟩) ?_
  rintro i hIA ihA
  try (dsimp only at hIA)
  try dsimp only
  obtain ⟨hi,hw⟩:=hIA
  by_cases hc:i < l.length
  · have g1:decide ((i:Int) < (l.length:Int))=true:=decide_eq_true (by omega)
    have hri:=hr _ (List.getElem_mem hc)
    have hcon:=hasM_any l[i].macs m hri.2 hm hri.1
    have hat:=whereF_at (m:=m) hc
    have hdr:=whereF_drop (m:=m) hc
    refine Wq (qW 14 15 rfl (qK rfl (Nl (Wq (Wt rfl ‹_› (Wu (Wq (Wb (Wq (qW 19 23 rfl (qJ rfl rfl ty30 ty39 (by omega) (Od rfl rfl (Lg rfl rfl ty39 rfl (rules_tk hc)) (qB rfl ty39 (qS rfl ty39 (Sl rfl) rfl (Nl ?_)))))))))))))))
    generalize l[i]=r at *
    cases hv:decide (m∈r.macs)
    · have hn:¬ m∈r.macs:=of_decide_eq_false hv
      rw [hv] at hcon
      refine Wq (qW 27 31 rfl (qF rfl ty39 rfl (qL rfl ty36 rfl (qG rfl ty23 rfl (bytes_tk hm) (Od rfl rfl (C0 (fr:=[]) rfl rfl (hcon) fok61 (.cons rfl (.pure rfl) (.cons rfl (.pure (bytesC_pure _)) .nil)) rfl) (Nl (Wo rfl rfl (Wu (qW 43 45 rfl (qZ rfl (iW _ (by omega)) (qM rfl (Nl (WL.rename [(0,0)] 1 (by decide) ?_ ?_ (ihA (i + 1) (show l.length - (i + 1) < l.length - i from by omega) (show (i + 1)≤l.length∧whereF l m=whereF (l.drop (i + 1)) m from ⟨by omega,hw.trans (hdr hn)⟩)))))))))))))))
      · exact aU (lR rfl) (aU (lR rfl) (aU (lR rfl) (aU (lI rfl) aM)))
      · exact aU (⟨rfl,_,rfl,.inr ⟨rfl,by first|rfl|assumption|exact (bytesC_pure _)⟩⟩) aM
    · have hn:m∈r.macs:=of_decide_eq_true hv
      rw [hv] at hcon
      refine Wq (qW 27 31 rfl (qF rfl ty39 rfl (qL rfl ty36 rfl (qG rfl ty23 rfl (bytes_tk hm) (Od rfl rfl (C0 (fr:=[]) rfl rfl (hcon) fok61 (.cons rfl (.pure rfl) (.cons rfl (.pure (bytesC_pure _)) .nil)) rfl) (Nl (Wt rfl rfl (Wq (qW 35 39 rfl (qF rfl ty39 rfl (qL rfl ty3 rfl (qA rfl (qA rfl (Nl ?_))))))))))))))
      refine W.ret ⟨.inl rfl,_,mt,(RVs.cons (RV.tmp rfl) (RVs.cons (RV.tmp rfl) RVs.nil)),(by (repeat' (first|exact all_mt|refine all_up ?_ ?_))<;>rfl),?_⟩
      exact ⟨by unfold whereV;rw [hw,hat hn];rfl,rfl⟩
  · have g1:decide ((i:Int) < (l.length:Int))=false:=decide_eq_false (by omega)
    refine Wq (qW 14 15 rfl (qK rfl (Nl (Wq (Wo rfl ‹_› (Wx ?_))))))
    obtain rfl:i=l.length:=by omega
    refine Wq (qW 49 51 rfl (qA rfl (qA rfl (Nl ?_))))
    refine W.ret ⟨.inl rfl,_,mt,(RVs.cons (RV.tmp rfl) (RVs.cons (RV.tmp rfl) RVs.nil)),(by (repeat' (first|exact all_mt|refine all_up ?_ ?_))<;>rfl),?_⟩
    exact ⟨by unfold whereV;rw [hw,List.drop_length];rfl,rfl⟩
/-- the first binding of an address -/
def boundF:List Bd→Ad→Option Bd
  | [],_=>none
  | b::l,a=>if eqA b.ad a then some b else boundF l a
def zBd:Bd:=⟨⟨false,0,0⟩,[0,0,0,0,0,0],0⟩
def boundV (l:List Bd) (a:Ad):AV:=match boundF l a with
  | some b=>.tup [.agg (bdC b),.base (.bool true)]
  | none=>.tup [.agg (bdC zBd),.base (.bool false)]
theorem bound_any (l:List Bd) (a:Ad) (hl:l.length≤100000) (hm:MacOk l):AFn Tryz.prog 142 0 [.isl (bdsC l) l.length,.agg (adC a)] mt (boundV l a) mt:=by
  refine AFn.eq Tryz.func142 rfl rfl (Nat.le_of_ble_eq_true rfl) (Wq (qW 0 3 rfl (qC rfl (qB rfl ty161 (qA rfl (Nl (Wq (Wq (qW 7 10 rfl (qM rfl (qH rfl ty31 (qM rfl (Nl (Wb (W.rename [(0,0),(1,1)] 2 (T':=up (up (up (up (up mt 3 (some (.own 0 0))) 4 (some (.own 1 0))) 8 (some (.isl (bdsC l) l.length))) 9 (some (.base (.int .i64 (l.length:Int))))) 10 (some (.base (.int .i64 (0:Int))))) (H':=up (up mt 0 (some (adC a))) 1 (some (bdC zBd))) (by decide) ?_ ?_ ?_)))))))))))))))
  · exact aU (lR rfl) (aU (lR rfl) (aU (lR rfl) (aU (lI rfl) (aU (lI rfl) aM))))
  · exact aU (kR rfl) (aU (kR rfl) aM)
  refine W.loop_ind (α:=Nat) (fun x=>l.length - x) 2 (fun x=>up (up (up (up (up mt 3 (some (.own 0 0))) 4 (some (.own 1 0))) 8 (some (.isl (bdsC l) l.length))) 9 (some (.base (.int .i64 (l.length:Int))))) 10 (some (.base (.int .i64 (x:Int))))) (fun x=>up (up mt 0 (some (adC a))) 1 (some (bdC zBd))) (fun x=>x≤l.length∧boundF l a=boundF (l.drop x) a) 0 (show 0≤l.length∧boundF l a=boundF (l.drop 0) a from ⟨Nat.zero_le _,rfl⟩) ?_
  rintro i hIA ihA
  try (dsimp only at hIA)
  try dsimp only
  obtain ⟨hi,hw⟩:=hIA
  by_cases hc:i < l.length
  · have g1:decide ((i:Int) < (l.length:Int))=true:=decide_eq_true (by omega)
    have h6:=hm _ (List.getElem_mem hc)
    have hbt:=bds_tk hm hc
    have hdr:boundF (l.drop i) a=if eqA l[i].ad a then some l[i] else boundF (l.drop (i + 1)) a:=by
      rw [List.drop_eq_getElem_cons hc];rfl
    generalize l[i]=b at *
    obtain ⟨ad,mc,port⟩:=b
    dsimp only at h6 hdr
    match mc,h6,hbt,hdr with
    | [a0,a1,a2,a3,a4,a5],_,hbt,hdr =>
      refine Wq (qW 14 15 rfl (qK rfl (Nl (Wq (Wt rfl ‹_› (Wu (Wq (Wb (Wq (qW 19 23 rfl (qJ rfl rfl ty31 ty161 (by omega) (Od rfl rfl (Lg rfl rfl ty161 rfl hbt) (qB rfl ty161 (qS rfl ty161 (Sl rfl) rfl (Nl ?_)))))))))))))))
      cases he:eqA ad a
      ·
        rw [he] at hdr
        refine Wq (qW 27 31 rfl (qF rfl ty161 rfl (qG rfl ty54 rfl (Tl rfl) (qG rfl ty54 rfl (Tl rfl) (Od rfl rfl (LO.eql_ad ad a rfl rfl rfl) (Nl (Wo rfl ‹_› (Wu (qW 42 44 rfl (qZ rfl (iW _ (by omega)) (qM rfl (Nl (WL.rename [(0,0),(1,1)] 2 (by decide) ?_ ?_ (ihA (i + 1) (show l.length - (i + 1) < l.length - i from by omega) (show (i + 1)≤l.length∧boundF l a=boundF (l.drop (i + 1)) a from ⟨by omega,hw.trans hdr⟩)))))))))))))))
        · exact aU (lR rfl) (aU (lR rfl) (aU (lR rfl) (aU (lI rfl) (aU (lI rfl) aM))))
        · exact aU (kR rfl) (aU (kR rfl) aM)
      ·
        rw [he] at hdr
        refine Wq (qW 27 31 rfl (qF rfl ty161 rfl (qG rfl ty54 rfl (Tl rfl) (qG rfl ty54 rfl (Tl rfl) (Od rfl rfl (LO.eql_ad ad a rfl rfl rfl) (Nl (Wt rfl ‹_› (Wq (qW 35 38 rfl (qG rfl ty161 rfl (Tl rfl) (qS rfl ty161 (Sl rfl) rfl (qA rfl (Nl ?_)))))))))))))
        refine W.ret ⟨.inl rfl,_,mt,(RVs.cons (RV.cellA rfl rfl ty161 rfl (Tk.lit rfl)) (RVs.cons (RV.tmp rfl) RVs.nil)),(by (repeat' (first|exact all_mt|refine all_up ?_ ?_))<;>rfl),?_⟩
        exact ⟨by unfold boundV;rw [hw,hdr];rfl,rfl⟩
  · have g1:decide ((i:Int) < (l.length:Int))=false:=decide_eq_false (by omega)
    refine Wq (qW 14 15 rfl (qK rfl (Nl (Wq (Wo rfl ‹_› (Wx ?_))))))
    obtain rfl:i=l.length:=by omega
    refine Wq (qW 48 51 rfl (Od rfl rfl (Bs rfl ty161 .nil) (qS rfl ty161 (Sl rfl) rfl (qA rfl (Nl ?_)))))
    refine W.ret ⟨.inl rfl,_,mt,(RVs.cons (RV.cellA rfl rfl ty161 rfl (Tk.lit rfl)) (RVs.cons (RV.tmp rfl) RVs.nil)),(by (repeat' (first|exact all_mt|refine all_up ?_ ?_))<;>rfl),?_⟩
    exact ⟨by unfold boundV;rw [hw,List.drop_length];rfl,rfl⟩
end Go.Proofs.YtlcndmciognneaaGreatDoor
namespace Go.Proofs.YtlcndmciognneaaGreatDoor
open Go.RowKit
theorem cloneE (A:Option Addr) (cap:Nat):AFn Tryz.prog 104 0 [.base (.slice A 0 cap)] mt (.isl [] 0) mt:=by
  refine AFn.eq Tryz.func104 rfl rfl (Nat.le_of_ble_eq_true rfl) (Wq (qW 0 1 rfl (qA rfl (Nl ?_))))
  cases A with
  | none =>
    refine Wq (Wq (qW 5 7 rfl (qM rfl (Od rfl rfl (LO.eqNilB rfl rfl rfl ty24) (Nl (Wt rfl rfl (Wq (qW 11 12 rfl (qA rfl (Nl (W.nilt (t:=2) rfl (Wz ⟨.inl rfl,_,mt,Rc (Rt rfl) (Rv),aM,?_⟩))))))))))))
    exact ⟨rfl,rfl⟩
  | some A =>
    refine Wq (Wq (qW 5 7 rfl (qM rfl (Od rfl rfl (LO.eqNilB rfl rfl rfl ty24) (Nl (Wo rfl rfl (Wu (Wq (qW 16 20 rfl (Od rfl rfl (LO.buildSlice rfl ty24 ty5 (by decide) (by decide) .nil) (Od rfl rfl (LO.moveE rfl rfl) (Od rfl rfl (Lap rfl rfl (Ssi rfl rfl rfl) rfl (Tl rfl) ty24 ty24 ty5 (by decide) (by omega) (by omega) (by decide)) (qA rfl (Nl (Wy (t:=2) rfl rfl (Tl rfl) rfl (Wz ⟨.inl rfl,_,mt,Rc (Rt rfl) (Rv),aM,?_⟩))))))))))))))))
    exact ⟨rfl,rfl⟩
theorem clone_any (b:List Int) (hl:b.length≤1000000):AFn Tryz.prog 104 0 [.isl (bytesC b) b.length] mt (.isl (bytesC b) b.length) mt:=by
  rcases Nat.eq_zero_or_pos b.length with h|h
  · rw [List.eq_nil_of_length_eq_zero h]
    exact .empty0 cloneE
  · refine AFn.eq Tryz.func104 rfl rfl (Nat.le_of_ble_eq_true rfl) (Wq (qW 0 1 rfl (qA rfl (Nl (Wq (Wq (qW 5 7 rfl (qM rfl (Od rfl rfl (LO.eqNilI rfl rfl rfl h rfl ty24) (Nl (Wo rfl rfl (Wu (Wq (qW 16 20 rfl (Od rfl rfl (LO.buildSlice rfl ty24 ty5 (by decide) (by decide) .nil) (qM rfl (Od rfl rfl (Lap rfl rfl (Ssi rfl rfl (by rw [bytesC_len];omega)) rfl (Tl rfl) ty24 ty24 ty5 (by decide) (by omega) (by omega) (by decide)) (qA rfl (Nl ?_)))))))))))))))))))
    rw [List.nil_append,show 0 + b.length=b.length from Nat.zero_add _]
    refine Wy (t:=2) rfl rfl (bytes_tk rfl) (bytesC_pure _) (Wz ⟨.inl rfl,_,mt,Rc (Rt rfl) (Rv),aM,?_⟩)
    exact ⟨rfl,rfl⟩
structure Fr where
  dst:List Int
  src:List Int
  vl:Int
  ty:Int
  data:List Int
def frC (f:Fr):List AV:=bytesC f.dst++bytesC f.src++[.base (.int .i64 f.vl),.base (.int .i64 f.ty),.isl (bytesC f.data) f.data.length]
structure FrOk (f:Fr):Prop where
  d6:f.dst.length=6
  s6:f.src.length=6
  bB:IsB f.data
  bl:f.data.length≤100000
theorem six_of {l:List Int} (h:l.length=6):∃ a b c d e f,l=[a,b,c,d,e,f]:=by
  match l,h with
  | [a,b,c,d,e,f],_=>exact ⟨_,_,_,_,_,_,rfl⟩
theorem dcP_ok (b:List Int) (hB:IsB b):IsB (dcP b).bs∧(U64 (dcP b).s.hi∧U64 (dcP b).s.lo)∧U64 (dcP b).d.hi∧U64 (dcP b).d.lo:=by
  unfold dcP
  split
  · exact ⟨(hB.drop _).take _,fb_bd _,fb_bd _⟩
  · exact ⟨(hB.drop _).take _,fb_bd _,fb_bd _⟩
theorem decR_len6 (p:Pk):(decR p).1.ln.length=6:=by
  have hz:zNb.ln.length=6:=rfl
  unfold decR
  split
  · exact hz
  · unfold rdB
    split
    · exact hz
    · split
      · exact hz
      · split
        · exact hz
        · rename_i r hr
          split
          · exact hz
          · exact optF_len _ _ _ _ _ (show zMac.length=6 from rfl) r hr
def zA:Ad:=⟨false,0,0⟩
def asksF (f:Fr):Ad × Bool :=
  if f.ty == 2054 && decide (f.dst=bcM) then (if arpE f.data=0 then ((arpOf f.data).tt,true) else (zA,false))
  else if f.ty == 34525 && grpE f.dst then
    (if dcE f.data=0 then (if (decR (dcP f.data)).2=0∧(decR (dcP f.data)).1.k=135 then ((decR (dcP f.data)).1.tg,true) else (zA,false)) else (zA,false))
  else (zA,false)
def asksV (a:Ad × Bool):AV:=.tup [.agg (adC a.1),.base (.bool a.2)]
set_option maxHeartbeats 2000000 in
theorem asks_any (f:Fr) (hf:FrOk f):AFn Tryz.prog 141 0 [.agg (frC f)] mt (asksV (asksF f)) mt:=by
  refine AFn.eq Tryz.func141 rfl rfl (Nat.le_of_ble_eq_true rfl) ?_
  obtain ⟨h1,h2,hB,hl⟩:=hf
  have hgr:=grpE_any f.dst h1
  have harp:=arp_any f.data hB
  have hpd:=pdec_any f.data hB (by omega)
  obtain ⟨q1,q2,q3⟩:=dcP_ok f.data hB
  have hnd:=dec_any (dcP f.data) q1 q2.1 q2.2 q3.1 q3.2
  have hln:=decR_len6 (dcP f.data)
  unfold asksF
  obtain ⟨dst,src,vl,ty,data⟩:=f
  dsimp only at *
  obtain ⟨d0,d1,d2,d3,d4,d5,rfl⟩:=six_of h1
  obtain ⟨s0,s1,s2,s3,s4,s5,rfl⟩:=six_of h2
  obtain ⟨n,hn⟩:∃ n,data.length=n:=⟨_,rfl⟩
  have hfm:arpE data=0→(arpOf data).fm.length=6∧(arpOf data).tm.length=6:=fun h=>by
    have:28≤data.length:=by
      rcases Nat.lt_or_ge data.length 28 with h3|h3
      · unfold arpE at h;rw [if_pos h3] at h;cases h
      · exact h3
    unfold arpOf
    constructor
    · show ((data.drop 8).take 6).length=6
      rw [List.length_take,List.length_drop];omega
    · show ((data.drop 18).take 6).length=6
      rw [List.length_take,List.length_drop];omega
  unfold arpR at harp
  generalize arpOf data=A at *
  generalize arpE data=ae at *
  generalize dcP data=P at *
  generalize dcE data=pe at *
  unfold decV at hnd
  generalize decR P=N at *
  obtain ⟨N,ne⟩:=N
  dsimp only at *
  refine Wq (qW 0 3 rfl (qC rfl (qB rfl ty54 (qA rfl (Nl (Wq (Wb ?_)))))))
  by_cases hb1:(ty == 2054)=true∧decide (([d0,d1,d2,d3,d4,d5]:List Int)=bcM)=true
  case' pos =>
    obtain ⟨k1,k2⟩:=hb1
    have ek:(ty == 2054 && decide (([d0,d1,d2,d3,d4,d5]:List Int)=bcM))=true:=by rw [k1,k2];rfl
    rw [if_pos ek]
    refine Wq (Wd 7 17 (by decide) rfl mixed rfl (qF rfl ty26 rfl (qL rfl ty3 rfl (qE rfl (qM rfl (qU rfl ‹_› rfl (Fa rfl rfl ty26 rfl (by decide)) (qU rfl ‹_› rfl (La rfl rfl rfl ty23 rfl (Tl rfl)) (qU rfl ‹_› rfl (C0 (fr:=[]) rfl rfl (bcE_any) fok114 .nil rfl) (qU rfl ‹_› rfl (LO.eql_mac [d0,d1,d2,d3,d4,d5] bcM rfl rfl rfl rfl rfl) (qT rfl ‹_› rfl (qA rfl (Nl ⟨by kernel_rfl,(Wt rfl ‹_› ?_)⟩))))))))))))
    by_cases he:ae=0
    case' pos =>
      have k3:(ae == 0)=true:=by simpa using he
      obtain ⟨l1,l2⟩:=hfm he
      rw [if_pos he] at harp ⊢
      obtain ⟨op,fm,fr,tm,tt⟩:=A
      dsimp only at l1 l2
      obtain ⟨m0,m1,m2,m3,m4,m5,rfl⟩:=six_of l1
      obtain ⟨n0,n1,n2,n3,n4,n5,rfl⟩:=six_of l2
      refine Wq (qW 21 30 rfl (qF rfl ty26 rfl (qL rfl ty24 rfl (qY rfl (harp) fok111 rfl (qM rfl (qX rfl (qX rfl (qB rfl ty78 (qS rfl ty78 (Sl rfl) rfl (qA rfl (Nl (Wq (qW 34 36 rfl (qM rfl (qE rfl (Nl (Wt rfl ‹_› (Wq (qW 40 44 rfl (qF rfl ty78 rfl (qG rfl ty54 rfl (Tl rfl) (qS rfl ty54 (Sl rfl) rfl (qA rfl (Nl ?_))))))))))))))))))))))))
      refine W.ret ⟨.inl rfl,_,mt,(RVs.cons (RV.cellA rfl rfl ty54 rfl (Tk.lit rfl)) (RVs.cons (RV.tmp rfl) RVs.nil)),(by (repeat' (first|exact all_mt|refine all_up ?_ ?_))<;>rfl),?_⟩
      exact ⟨rfl,rfl⟩
    case' neg =>
      have k3:(ae == 0)=false:=by simpa using he
      rw [if_neg he] at harp ⊢
      refine Wq (qW 21 30 rfl (qF rfl ty26 rfl (qL rfl ty24 rfl (qY rfl (harp) fok111 rfl (qM rfl (qX rfl (qX rfl (qB rfl ty78 (qS rfl ty78 (Sl rfl) rfl (qA rfl (Nl (Wq (qW 34 36 rfl (qM rfl (qE rfl (Nl (Wo rfl ‹_› (Wu (Wq (qW 111 114 rfl (Od rfl rfl (Bs rfl ty54 .nil) (qS rfl ty54 (Sl rfl) rfl (qA rfl (Nl ?_))))))))))))))))))))))))
      refine W.ret ⟨.inl rfl,_,mt,(RVs.cons (RV.cellA rfl rfl ty54 rfl (Tk.lit rfl)) (RVs.cons (RV.tmp rfl) RVs.nil)),(by (repeat' (first|exact all_mt|refine all_up ?_ ?_))<;>rfl),?_⟩
      exact ⟨rfl,rfl⟩
  case' neg =>
    have ek:(ty == 2054 && decide (([d0,d1,d2,d3,d4,d5]:List Int)=bcM))=false:=by
      rw [Bool.and_eq_false_iff]
      rcases Decidable.not_and_iff_or_not.1 hb1 with h|h
      · exact .inl (by simpa using h)
      · exact .inr (by simpa using h)
    rw [if_neg (by rw [ek];decide)]
    cases k1:(ty == 2054)
    case' true =>
      have k2:decide (([d0,d1,d2,d3,d4,d5]:List Int)=bcM)=false:=by rw [k1] at ek;exact ek
      refine Wq (Wd 7 17 (by decide) rfl mixed rfl (qF rfl ty26 rfl (qL rfl ty3 rfl (qE rfl (qM rfl (qU rfl ‹_› rfl (Fa rfl rfl ty26 rfl (by decide)) (qU rfl ‹_› rfl (La rfl rfl rfl ty23 rfl (Tl rfl)) (qU rfl ‹_› rfl (C0 (fr:=[]) rfl rfl (bcE_any) fok114 .nil rfl) (qU rfl ‹_› rfl (LO.eql_mac [d0,d1,d2,d3,d4,d5] bcM rfl rfl rfl rfl rfl) (qT rfl ‹_› rfl (qA rfl (Nl ⟨by kernel_rfl,(Wo rfl ‹_› ?_)⟩))))))))))))
    case' false =>
      refine Wq (Wd 7 17 (by decide) rfl mixed rfl (qF rfl ty26 rfl (qL rfl ty3 rfl (qE rfl (qM rfl (qD rfl ‹_› rfl (qD rfl ‹_› rfl (qD rfl ‹_› rfl (qD rfl ‹_› rfl (qP rfl ‹_› rfl (qA rfl (Nl ⟨by kernel_rfl,(Wo rfl rfl ?_)⟩))))))))))))
    all_goals
      clear ek hb1
      obtain ⟨g,hg⟩:∃ g,grpE [d0,d1,d2,d3,d4,d5]=g:=⟨_,rfl⟩
      rw [hg] at hgr ⊢
      cases k3:(ty == 34525)
      case' false =>
        rw [if_neg (by simp)]
        repeat (refine W.seq ?_)
        refine qW 48 57 rfl (qF rfl ty26 rfl (qL rfl ty3 rfl (qE rfl (qM rfl (qD rfl ‹_› rfl (qD rfl ‹_› rfl (qD rfl ‹_› rfl (qP rfl ‹_› rfl (qA rfl (Nl (Wo rfl rfl (Wu ?_))))))))))))
        repeat (refine W.seq ?_)
        refine qW 111 114 rfl (Od rfl rfl (Bs rfl ty54 .nil) (qS rfl ty54 (Sl rfl) rfl (qA rfl (Nl ?_))))
        refine W.ret ⟨.inl rfl,_,mt,(RVs.cons (RV.cellA rfl rfl ty54 rfl (Tk.lit rfl)) (RVs.cons (RV.tmp rfl) RVs.nil)),(by (repeat' (first|exact all_mt|refine all_up ?_ ?_))<;>rfl),?_⟩
        exact ⟨rfl,rfl⟩
      case' true =>
        cases g
        case' false =>
          rw [if_neg (by decide)]
          repeat (refine W.seq ?_)
          refine qW 48 57 rfl (qF rfl ty26 rfl (qL rfl ty3 rfl (qE rfl (qM rfl (qU rfl ‹_› rfl (Fa rfl rfl ty26 rfl (by decide)) (qU rfl ‹_› rfl (La rfl rfl rfl ty23 rfl (Tl rfl)) (qU rfl ‹_› rfl (C0 (fr:=[]) rfl rfl (hgr) fok73 (.cons rfl (.pure rfl) .nil) rfl) (qT rfl ‹_› rfl (qA rfl (Nl (Wo rfl rfl (Wu ?_))))))))))))
          repeat (refine W.seq ?_)
          refine qW 111 114 rfl (Od rfl rfl (Bs rfl ty54 .nil) (qS rfl ty54 (Sl rfl) rfl (qA rfl (Nl ?_))))
          refine W.ret ⟨.inl rfl,_,mt,(RVs.cons (RV.cellA rfl rfl ty54 rfl (Tk.lit rfl)) (RVs.cons (RV.tmp rfl) RVs.nil)),(by (repeat' (first|exact all_mt|refine all_up ?_ ?_))<;>rfl),?_⟩
          exact ⟨rfl,rfl⟩
        case' true =>
          rw [if_pos (by decide)]
          repeat (refine W.seq ?_)
          refine qW 48 57 rfl (qF rfl ty26 rfl (qL rfl ty3 rfl (qE rfl (qM rfl (qU rfl ‹_› rfl (Fa rfl rfl ty26 rfl (by decide)) (qU rfl ‹_› rfl (La rfl rfl rfl ty23 rfl (Tl rfl)) (qU rfl ‹_› rfl (C0 (fr:=[]) rfl rfl (hgr) fok73 (.cons rfl (.pure rfl) .nil) rfl) (qT rfl ‹_› rfl (qA rfl (Nl (Wt rfl rfl ?_)))))))))))
          by_cases he:pe=0
          case' neg =>
            have k4:(pe != 0)=true:=by simpa using he
            rw [if_neg he,rdV_bad he] at *
            repeat (refine W.seq ?_)
            refine qW 61 70 rfl (qF rfl ty26 rfl (qL rfl ty24 rfl (qY rfl (hpd) fok115 rfl (qM rfl (qX rfl (qX rfl (qB rfl ty83 (qS rfl ty83 (Sl rfl) rfl (qA rfl (Nl ?_))))))))))
            repeat (refine W.seq ?_)
            refine qW 74 76 rfl (qM rfl (qN rfl (Nl (Wt rfl ‹_› (Wx ?_)))))
            repeat (refine W.seq ?_)
            refine qW 111 114 rfl (Od rfl rfl (Bs rfl ty54 .nil) (qS rfl ty54 (Sl rfl) rfl (qA rfl (Nl ?_))))
            refine W.ret ⟨.inl rfl,_,mt,(RVs.cons (RV.cellA rfl rfl ty54 rfl (Tk.lit rfl)) (RVs.cons (RV.tmp rfl) RVs.nil)),(by (repeat' (first|exact all_mt|refine all_up ?_ ?_))<;>rfl),?_⟩
            exact ⟨rfl,rfl⟩
          case' pos =>
            subst he
            rw [if_pos rfl]
            rw [rdV_ok] at hpd
            repeat (refine W.seq ?_)
            refine qW 61 70 rfl (qF rfl ty26 rfl (qL rfl ty24 rfl (qY rfl (hpd) fok115 rfl (qM rfl (qX rfl (qX rfl (qB rfl ty83 (qS rfl ty83 (Sl rfl) rfl (qA rfl (Nl ?_))))))))))
            repeat (refine W.seq ?_)
            refine qW 74 76 rfl (qM rfl (qN rfl (Nl (Wo rfl (rfl) (Wu ?_)))))
            repeat (refine W.seq ?_)
            refine qW 80 88 rfl (qG rfl ty83 rfl (Tl rfl) ?_)
            obtain ⟨k,fl,tg,has,ln⟩:=N
            dsimp only at hln hnd ⊢
            obtain ⟨e0,e1,e2,e3,e4,e5,rfl⟩:=six_of hln
            refine qY rfl (hnd) fok116 rfl (qM rfl (qX rfl (qX rfl (qB rfl ty87 (qS rfl ty87 (Sl rfl) rfl (qA rfl (Nl ?_)))))))
            cases k5:(ne == 0)
            case' false =>
              have hc:¬ (ne=0∧k=135):=fun h=>by rw [h.1] at k5;cases k5
              rw [if_neg hc]
              repeat (refine W.seq ?_)
              refine qW 92 99 rfl (qM rfl (qE rfl (qM rfl (qD rfl ‹_› rfl (qD rfl ‹_› rfl (qD rfl ‹_› rfl (qP rfl ‹_› rfl (Nl (Wo rfl rfl (Wu ?_))))))))))
              repeat (refine W.seq ?_)
              refine qW 111 114 rfl (Od rfl rfl (Bs rfl ty54 .nil) (qS rfl ty54 (Sl rfl) rfl (qA rfl (Nl ?_))))
              refine W.ret ⟨.inl rfl,_,mt,(RVs.cons (RV.cellA rfl rfl ty54 rfl (Tk.lit rfl)) (RVs.cons (RV.tmp rfl) RVs.nil)),(by (repeat' (first|exact all_mt|refine all_up ?_ ?_))<;>rfl),?_⟩
              exact ⟨rfl,rfl⟩
            case' true =>
              have k5':ne=0:=by simpa using k5
              cases k6:(k == 135)
              case' false =>
                have hc:¬ (ne=0∧k=135):=fun h=>by rw [h.2] at k6;cases k6
                rw [if_neg hc]
                repeat (refine W.seq ?_)
                refine qW 92 99 rfl (qM rfl (qE rfl (qM rfl (qU rfl ‹_› rfl (Fa rfl rfl ty87 rfl (by decide)) (qU rfl ‹_› rfl (Ld rfl rfl rfl rfl ty3 rfl) (qU rfl ‹_› rfl (Eq0 rfl rfl rfl) (qT rfl ‹_› rfl (Nl (Wo rfl ‹_› (Wu ?_))))))))))
                repeat (refine W.seq ?_)
                refine qW 111 114 rfl (Od rfl rfl (Bs rfl ty54 .nil) (qS rfl ty54 (Sl rfl) rfl (qA rfl (Nl ?_))))
                refine W.ret ⟨.inl rfl,_,mt,(RVs.cons (RV.cellA rfl rfl ty54 rfl (Tk.lit rfl)) (RVs.cons (RV.tmp rfl) RVs.nil)),(by (repeat' (first|exact all_mt|refine all_up ?_ ?_))<;>rfl),?_⟩
                exact ⟨rfl,rfl⟩
              case' true =>
                have k6':k=135:=by simpa using k6
                rw [if_pos ⟨k5',k6'⟩]
                repeat (refine W.seq ?_)
                refine qW 92 99 rfl (qM rfl (qE rfl (qM rfl (qU rfl ‹_› rfl (Fa rfl rfl ty87 rfl (by decide)) (qU rfl ‹_› rfl (Ld rfl rfl rfl rfl ty3 rfl) (qU rfl ‹_› rfl (Eq0 rfl rfl rfl) (qT rfl ‹_› rfl (Nl (Wt rfl ‹_› ?_)))))))))
                repeat (refine W.seq ?_)
                refine qW 103 107 rfl (qF rfl ty87 rfl (qG rfl ty54 rfl (Tl rfl) (qS rfl ty54 (Sl rfl) rfl (qA rfl (Nl ?_)))))
                refine W.ret ⟨.inl rfl,_,mt,(RVs.cons (RV.cellA rfl rfl ty54 rfl (Tk.lit rfl)) (RVs.cons (RV.tmp rfl) RVs.nil)),(by (repeat' (first|exact all_mt|refine all_up ?_ ?_))<;>rfl),?_⟩
                exact ⟨rfl,rfl⟩
end Go.Proofs.YtlcndmciognneaaGreatDoor
namespace Go.Proofs.YtlcndmciognneaaGreatDoor
open Go.ChangeShapes Go.WideShapes Go.ChangeAt Go.RowKit
section
variable {H:Type} {enc:TypeId × Value→H}
theorem opBytes:Opens enc Tryz.prog 24 (fun (l:List Int)=>[.isl (bytesC l) l.length]) (fun l=>IsB l) :=
  (Opens.slice (n:=1) Tryz.underlying24 opU8 (by kernel_rfl) (by decide) (fun _ _=>rfl)).map id (fun l _=>by unfold bytesC;rw [List.map_eq_flatMap];rfl) (fun l h=>h.2)
end
end Go.Proofs.YtlcndmciognneaaGreatDoor
namespace Go.Proofs.YtlcndmciognneaaGreatDoor
open Go.RowKit
end Go.Proofs.YtlcndmciognneaaGreatDoor
namespace Go.Proofs.YtlcndmciognneaaGreatDoor
open Go.RowKit
def whereP (l:List Rl) (m:List Int):Int × Bool:=match whereF l m with
  | some r=>(r.port,true)
  | none=>(0,false)
theorem whereV_eq (l:List Rl) (m:List Int):whereV l m=.tup [.base (.int .i64 (whereP l m).1),.base (.bool (whereP l m).2)]:=by
  unfold whereV whereP
  cases whereF l m<;>rfl
def boundP (l:List Bd) (a:Ad):Bd × Bool:=match boundF l a with
  | some b=>(b,true)
  | none=>(zBd,false)
theorem boundV_eq (l:List Bd) (a:Ad):boundV l a=.tup [.agg (bdC (boundP l a).1),.base (.bool (boundP l a).2)]:=by
  unfold boundV boundP
  cases boundF l a<;>rfl
theorem boundF_mem:∀ {l:List Bd} {a:Ad} {b:Bd},boundF l a=some b→b∈l∧b.ad=a:=by
  intro l
  induction l with
  | nil=>intro a b h;cases h
  | cons x l ih =>
    intro a b h
    rw [show boundF (x::l) a=if eqA x.ad a then some x else boundF l a from rfl] at h
    split at h
    · rename_i he
      injection h with h
      subst h
      exact ⟨by simp,eqA_iff.1 he⟩
    · have:=ih h
      exact ⟨by simp [this.1],this.2⟩
theorem boundP_len {l:List Bd} (h:MacOk l) (a:Ad):(boundP l a).1.mac.length=6:=by
  unfold boundP
  cases hb:boundF l a with
  | none=>rfl
  | some b=>exact h b (boundF_mem hb).1
structure TablesOk (rs:List Rl) (bs:List Bd):Prop where
  rl:rs.length≤100000
  bl:bs.length≤100000
  rm:∀ r,r∈rs→r.macs.length≤1000∧∀ x,x∈r.macs→x.length=6
  bm:MacOk bs
def tgtF (rs:List Rl) (bs:List Bd) (f:Fr):Int × List Int × Bool :=
  if grpE f.dst then ((boundP bs (asksF f).1).1.port,(boundP bs (asksF f).1).1.mac,(asksF f).2 && (boundP bs (asksF f).1).2)
  else ((whereP rs f.dst).1,f.dst,(whereP rs f.dst).2)
def tgtV (t:Int × List Int × Bool):AV:=.tup [.base (.int .i64 t.1),.agg (bytesC t.2.1),.base (.bool t.2.2)]
set_option maxHeartbeats 2000000 in
theorem target_any (rs:List Rl) (bs:List Bd) (f:Fr) (ht:TablesOk rs bs) (hf:FrOk f):AFn Tryz.prog 103 0 [.isl (rulesC rs) rs.length,.isl (bdsC bs) bs.length,.agg (frC f)] mt (tgtV (tgtF rs bs f)) mt:=by
  refine AFn.eq Tryz.func103 rfl rfl (Nat.le_of_ble_eq_true rfl) ?_
  have hak:=asks_any f hf
  have hwh:=where_any rs f.dst hf.d6 ht.rl ht.rm
  have hbo:=bound_any bs (asksF f).1 ht.bl ht.bm
  have hbl:=boundP_len ht.bm (asksF f).1
  have hgr:=grpE_any f.dst hf.d6
  rw [whereV_eq] at hwh
  rw [boundV_eq] at hbo
  unfold tgtF
  generalize asksF f=ak at *
  generalize boundP bs ak.1=bp at *
  unfold asksV at hak
  obtain ⟨ad,ak⟩:=ak
  obtain ⟨⟨bad,bmac,bport⟩,bok⟩:=bp
  obtain ⟨dst,src,vl,ty,data⟩:=f
  have d6:=hf.d6
  have s6:=hf.s6
  clear hf
  dsimp only at *
  generalize whereP rs dst=wp at *
  obtain ⟨wport,wok⟩:=wp
  obtain ⟨d0,d1,d2,d3,d4,d5,rfl⟩:=six_of d6
  obtain ⟨s0,s1,s2,s3,s4,s5,rfl⟩:=six_of s6
  obtain ⟨m0,m1,m2,m3,m4,m5,rfl⟩:=six_of hbl
  obtain ⟨g,hg⟩:∃ g,grpE [d0,d1,d2,d3,d4,d5]=g:=⟨_,rfl⟩
  rw [hg] at hgr ⊢
  refine Wq (qW 0 4 rfl (qC rfl (qA rfl (qB rfl ty23 (qA rfl (Nl ?_))))))
  cases g
  case' false =>
    rw [if_neg (by decide)]
    refine Wq (Wq (qW 8 12 rfl (qF rfl ty26 rfl (qG rfl ty23 rfl (Tl rfl) (qY rfl (hgr) fok73 rfl (qO rfl (Nl (Wt rfl rfl (Wq (qW 16 25 rfl (qM rfl (qF rfl ty26 rfl (qG rfl ty23 rfl (Tl rfl) (qY rfl (hwh) fok140 rfl (qM rfl (qX rfl (qX rfl (qA rfl (qA rfl (Nl (Wq (Wd 29 36 (by decide) rfl mixed rfl (qM rfl (qF rfl ty26 rfl (qG rfl ty23 rfl (Tl rfl) (qM rfl (qA rfl (qS rfl ty23 (Sl rfl) rfl (qA rfl (Nl ⟨by kernel_rfl,?_⟩))))))))))))))))))))))))))))))
    refine W.ret ⟨.inl rfl,_,mt,(RVs.cons (RV.tmp rfl) (RVs.cons (RV.cellA rfl rfl ty23 rfl (Tk.lit rfl)) (RVs.cons (RV.tmp rfl) RVs.nil))),(by (repeat' (first|exact all_mt|refine all_up ?_ ?_))<;>rfl),?_⟩
    exact ⟨rfl,rfl⟩
  case' true =>
    rw [if_pos rfl]
    refine Wq (Wq (qW 8 12 rfl (qF rfl ty26 rfl (qG rfl ty23 rfl (Tl rfl) (qY rfl (hgr) fok73 rfl (qO rfl (Nl (Wo rfl rfl (Wu (Wq (qW 40 48 rfl (qG rfl ty26 rfl (Tl rfl) (qY rfl (hak) fok141 rfl (qM rfl (qX rfl (qX rfl (qB rfl ty54 (qS rfl ty54 (Sl rfl) rfl (qA rfl (Nl (Wq (qW 52 61 rfl (qM rfl (qG rfl ty54 rfl (Tl rfl) (qY rfl (hbo) fok142 rfl (qM rfl (qX rfl (qX rfl (qB rfl ty161 (qS rfl ty161 (Sl rfl) rfl (qA rfl (Nl ?_))))))))))))))))))))))))))))))))
    cases ak
    case' true =>
      refine Wq (Wd 65 76 (by decide) rfl mixed rfl (qF rfl ty161 rfl (qL rfl ty3 rfl (qF rfl ty161 rfl (qG rfl ty23 rfl (Tl rfl) (qM rfl (qM rfl (qU rfl rfl rfl (Mv rfl rfl) (qT rfl rfl rfl (qA rfl (qS rfl ty23 (Sl rfl) rfl (qA rfl (Nl ⟨by kernel_rfl,?_⟩)))))))))))))
      refine W.ret ⟨.inl rfl,_,mt,(RVs.cons (RV.tmp rfl) (RVs.cons (RV.cellA rfl rfl ty23 rfl (Tk.lit rfl)) (RVs.cons (RV.tmp rfl) RVs.nil))),(by (repeat' (first|exact all_mt|refine all_up ?_ ?_))<;>rfl),?_⟩
      exact ⟨rfl,rfl⟩
    case' false =>
      refine Wq (Wd 65 76 (by decide) rfl mixed rfl (qF rfl ty161 rfl (qL rfl ty3 rfl (qF rfl ty161 rfl (qG rfl ty23 rfl (Tl rfl) (qM rfl (qM rfl (qD rfl rfl rfl (qP rfl rfl rfl (qA rfl (qS rfl ty23 (Sl rfl) rfl (qA rfl (Nl ⟨by kernel_rfl,?_⟩)))))))))))))
      refine W.ret ⟨.inl rfl,_,mt,(RVs.cons (RV.tmp rfl) (RVs.cons (RV.cellA rfl rfl ty23 rfl (Tk.lit rfl)) (RVs.cons (RV.tmp rfl) RVs.nil))),(by (repeat' (first|exact all_mt|refine all_up ?_ ?_))<;>rfl),?_⟩
      exact ⟨rfl,rfl⟩
def zFr:Fr:=⟨[0,0,0,0,0,0],[0,0,0,0,0,0],0,0,[]⟩
def dlvF (rs:List Rl) (bs:List Bd) (fm:Int) (f:Fr):Int × Fr × Int :=
  if (tgtF rs bs f).2.2=false∨(tgtF rs bs f).1=fm then (0,zFr,13) else ((tgtF rs bs f).1,⟨(tgtF rs bs f).2.1,f.src,f.vl,f.ty,f.data⟩,0)
def dlvV (t:Int × Fr × Int):AV:=.tup [.base (.int .i64 t.1),.agg (frC t.2.1),.base (.int .i64 t.2.2)]
theorem tgtF_len {rs:List Rl} {bs:List Bd} {f:Fr} (ht:TablesOk rs bs) (hf:FrOk f):(tgtF rs bs f).2.1.length=6:=by
  unfold tgtF
  split
  · exact boundP_len ht.bm _
  · exact hf.d6
set_option maxHeartbeats 2000000 in
theorem deliver_any (rs:List Rl) (bs:List Bd) (fm:Int) (f:Fr) (ht:TablesOk rs bs) (hf:FrOk f):AFn Tryz.prog 54 0 [.isl (rulesC rs) rs.length,.isl (bdsC bs) bs.length,.base (.int .i64 fm),.agg (frC f)] mt (dlvV (dlvF rs bs fm f)) mt:=by
  refine AFn.eq Tryz.func54 rfl rfl (Nat.le_of_ble_eq_true rfl) ?_
  have hta:=target_any rs bs f ht hf
  have htl:=tgtF_len ht hf
  have hcl:=clone_any f.data (by have:=hf.bl;omega)
  unfold dlvF
  generalize tgtF rs bs f=tg at *
  unfold tgtV at hta
  obtain ⟨port,mac,ok⟩:=tg
  obtain ⟨dst,src,vl,ty,data⟩:=f
  have d6:=hf.d6
  have s6:=hf.s6
  clear hf
  dsimp only at *
  obtain ⟨d0,d1,d2,d3,d4,d5,rfl⟩:=six_of d6
  obtain ⟨s0,s1,s2,s3,s4,s5,rfl⟩:=six_of s6
  obtain ⟨m0,m1,m2,m3,m4,m5,rfl⟩:=six_of htl
  refine Wq (qW 0 4 rfl (qC rfl (qA rfl (qB rfl ty26 (qA rfl (Nl (Wq (qW 8 20 rfl (qM rfl (qM rfl (qG rfl ty26 rfl (Tl rfl) (qY rfl (hta) fok103 rfl (qM rfl (qX rfl (qX rfl (qX rfl (qB rfl ty23 (qA rfl (qS rfl ty23 (Sl rfl) rfl (qA rfl (Nl ?_)))))))))))))))))))))
  cases ok
  case' false =>
    rw [if_pos (.inl rfl)]
    refine Wq (Wq (qW 24 31 rfl (qM rfl (qO rfl (qM rfl (qD rfl rfl rfl (qD rfl rfl rfl (qD rfl rfl rfl (qT rfl rfl rfl (Nl (Wt rfl rfl (Wq (qW 35 39 rfl (Od rfl rfl (Bs rfl ty26 .nil) (qA rfl (qS rfl ty26 (Sl rfl) rfl (qA rfl (Nl (W.nilc (q:=2) (j:=14) rfl rfl (Sl rfl) ?_)))))))))))))))))))
    refine W.ret ⟨.inl rfl,_,mt,(RVs.cons (RV.tmp rfl) (RVs.cons (RV.cellA rfl rfl ty26 rfl (Tk.lit rfl)) (RVs.cons (RV.tmp rfl) RVs.nil))),(by (repeat' (first|exact all_mt|refine all_up ?_ ?_))<;>rfl),?_⟩
    exact ⟨rfl,rfl⟩
  case' true =>
    cases k1:(port == fm)
    case' true =>
      rw [if_pos (.inr (by simpa using k1))]
      refine Wq (Wq (qW 24 31 rfl (qM rfl (qO rfl (qM rfl (qU rfl rfl rfl (Mv rfl rfl) (qU rfl rfl rfl (Mv rfl rfl) (qU rfl rfl rfl (Eq0 rfl rfl rfl) (qP rfl rfl rfl (Nl (Wt rfl ‹_› (Wq (qW 35 39 rfl (Od rfl rfl (Bs rfl ty26 .nil) (qA rfl (qS rfl ty26 (Sl rfl) rfl (qA rfl (Nl (W.nilc (q:=2) (j:=14) rfl rfl (Sl rfl) ?_)))))))))))))))))))
      refine W.ret ⟨.inl rfl,_,mt,(RVs.cons (RV.tmp rfl) (RVs.cons (RV.cellA rfl rfl ty26 rfl (Tk.lit rfl)) (RVs.cons (RV.tmp rfl) RVs.nil))),(by (repeat' (first|exact all_mt|refine all_up ?_ ?_))<;>rfl),?_⟩
      exact ⟨rfl,rfl⟩
    case' false =>
      rw [if_neg (by rintro (h | h); · cases h
                     · rw [h] at k1;simp at k1)]
      refine Wq (Wq (qW 24 31 rfl (qM rfl (qO rfl (qM rfl (qU rfl rfl rfl (Mv rfl rfl) (qU rfl rfl rfl (Mv rfl rfl) (qU rfl rfl rfl (Eq0 rfl rfl rfl) (qP rfl rfl rfl (Nl (Wo rfl ‹_› (Wu (Wq (Wd 43 51 (by decide) rfl mixed rfl (qG rfl ty23 rfl (Tl rfl) (qF rfl ty26 rfl (qL rfl ty24 rfl (qY rfl (hcl) fok104 rfl (qF rfl ty26 rfl (qS rfl ty23 (Sl rfl) rfl (qF rfl ty26 rfl (qS rfl ty24 (Sl rfl) rfl (Nl ⟨by kernel_rfl,(Wq (Wd 55 60 (by decide) rfl mixed rfl (qM rfl (qG rfl ty26 rfl (Tl rfl) (qA rfl (qS rfl ty26 (Sl rfl) rfl (qA rfl (Nl ⟨by kernel_rfl,?_⟩))))))))⟩)))))))))))))))))))))))
      refine W.ret ⟨.inl rfl,_,mt,(RVs.cons (RV.tmp rfl) (RVs.cons (RV.cellA rfl rfl ty26 rfl (Tk.lit rfl)) (RVs.cons (RV.tmp rfl) RVs.nil))),(by (repeat' (first|exact all_mt|refine all_up ?_ ?_))<;>rfl),?_⟩
      exact ⟨rfl,rfl⟩
end Go.Proofs.YtlcndmciognneaaGreatDoor
namespace Go.Proofs.YtlcndmciognneaaGreatDoor
open Go.RowKit
def reqA (m:List Int) (s d:Ad):Arp:=⟨1,m,s,[0,0,0,0,0,0],d⟩
theorem request_any (m:List Int) (s d:Ad) (hm:m.length=6):AFn Tryz.prog 69 0 [.agg (bytesC m),.agg (adC s),.agg (adC d)] mt (.agg (arpC (reqA m s d))) mt:=by
  refine AFn.eq Tryz.func69 rfl rfl (Nat.le_of_ble_eq_true rfl) ?_
  obtain ⟨m0,m1,m2,m3,m4,m5,rfl⟩:=six_of hm
  refine Wq (qW 0 4 rfl (qC rfl (qC rfl (qC rfl (qB rfl ty78 (Nl (Wq (qW 8 13 rfl (qG rfl ty23 rfl (Tl rfl) (qG rfl ty54 rfl (Tl rfl) (qG rfl ty54 rfl (Tl rfl) (Od rfl rfl (Bs rfl ty78 (.cons rfl rfl rfl rfl (Sl rfl) (.cons rfl rfl rfl rfl (Sl rfl) (.cons rfl rfl rfl rfl (Sl rfl) (.cons rfl rfl rfl rfl (Sl rfl) .nil))))) (qS rfl ty78 (Sl rfl) rfl (Nl ?_))))))))))))))
  refine W.ret ⟨.inl rfl,_,mt,(RVs.cons (RV.cellA rfl rfl ty78 rfl (Tk.lit rfl)) RVs.nil),(by (repeat' (first|exact all_mt|refine all_up ?_ ?_))<;>rfl),?_⟩
  exact ⟨rfl,rfl⟩
theorem arpX_yes (a:Arp) (h1:a.fm.length=6) (h2:a.tm.length=6) (hv:arpV a=true):AFn Tryz.prog 123 0 [.agg (arpC a)] mt (.base (.bool true)) mt:=by
  refine AFn.eq Tryz.func123 rfl rfl (Nat.le_of_ble_eq_true rfl) ?_
  have v1:=rvalid_any a.fr
  have v2:=rvalid_any a.tt
  obtain ⟨op,fm,⟨f6,fh,fl⟩,tm,⟨t6,th,tl⟩⟩:=a
  unfold arpV ip4 at hv
  simp only [Bool.and_eq_true,Bool.or_eq_true,Bool.not_eq_true'] at hv
  obtain ⟨hop,⟨e1,e2⟩,e3,e4⟩:=hv
  dsimp only at h1 h2 v1 v2 e1 e2 e3 e4
  rw [e1] at v1
  rw [e3] at v2
  subst e2 e4
  obtain ⟨m0,m1,m2,m3,m4,m5,rfl⟩:=six_of h1
  obtain ⟨n0,n1,n2,n3,n4,n5,rfl⟩:=six_of h2
  refine Wq (qW 0 2 rfl (qC rfl (qA rfl (Nl ?_))))
  cases k1:(op == 1)
  case' true =>
    refine Wq (qW 6 37 rfl (qF rfl ty78 rfl (qL rfl ty3 rfl (qE rfl (qM rfl (qD rfl ‹_› rfl (qD rfl ‹_› rfl (qD rfl ‹_› rfl (qT rfl ‹_› rfl (qM rfl (qU rfl rfl rfl (Fa rfl rfl ty78 rfl (by decide)) (qU rfl rfl rfl (La rfl rfl rfl ty54 rfl (Tl rfl)) (qU rfl rfl rfl (C0 (fr:=[]) rfl rfl (v1) fok125 (.cons rfl (.pure rfl) .nil) rfl) (qT rfl rfl rfl (qM rfl (qU rfl rfl rfl (Fa rfl rfl ty78 rfl (by decide)) (qU rfl rfl rfl (La rfl rfl rfl ty54 rfl (Tl rfl)) (qU rfl rfl rfl (C0 (fr:=[]) rfl rfl (v2) fok125 (.cons rfl (.pure rfl) .nil) rfl) (qT rfl rfl rfl (qM rfl (qU rfl rfl rfl (Fa rfl rfl ty78 rfl (by decide)) (qU rfl rfl rfl (Fa rfl rfl ty54 rfl (by decide)) (qU rfl rfl rfl (Ld rfl rfl rfl rfl ty4 rfl) (qU rfl rfl rfl (Nt rfl rfl) (qT rfl rfl rfl (qM rfl (qU rfl rfl rfl (Fa rfl rfl ty78 rfl (by decide)) (qU rfl rfl rfl (Fa rfl rfl ty54 rfl (by decide)) (qU rfl rfl rfl (Ld rfl rfl rfl rfl ty4 rfl) (qU rfl rfl rfl (Nt rfl rfl) (qT rfl rfl rfl (qA rfl (Nl (Wz ⟨.inl rfl,_,mt,Rc (Rt rfl) (Rv),aM,?_⟩))))))))))))))))))))))))))))))))))
    exact ⟨rfl,rfl⟩
  case' false =>
    have k2 : (op == 2) = true := by rcases hop with h | h; · rw [h] at k1; cases k1
                                     · exact h
    refine Wq (qW 6 37 rfl (qF rfl ty78 rfl (qL rfl ty3 rfl (qE rfl (qM rfl (qU rfl ‹_› rfl (Fa rfl rfl ty78 rfl (by decide)) (qU rfl ‹_› rfl (Ld rfl rfl rfl rfl ty3 rfl) (qU rfl ‹_› rfl (Eq0 rfl rfl rfl) (qP rfl ‹_› rfl (qM rfl (qU rfl ‹_› rfl (Fa rfl rfl ty78 rfl (by decide)) (qU rfl ‹_› rfl (La rfl rfl rfl ty54 rfl (Tl rfl)) (qU rfl ‹_› rfl (C0 (fr:=[]) rfl rfl (v1) fok125 (.cons rfl (.pure rfl) .nil) rfl) (qT rfl ‹_› rfl (qM rfl (qU rfl rfl rfl (Fa rfl rfl ty78 rfl (by decide)) (qU rfl rfl rfl (La rfl rfl rfl ty54 rfl (Tl rfl)) (qU rfl rfl rfl (C0 (fr:=[]) rfl rfl (v2) fok125 (.cons rfl (.pure rfl) .nil) rfl) (qT rfl rfl rfl (qM rfl (qU rfl rfl rfl (Fa rfl rfl ty78 rfl (by decide)) (qU rfl rfl rfl (Fa rfl rfl ty54 rfl (by decide)) (qU rfl rfl rfl (Ld rfl rfl rfl rfl ty4 rfl) (qU rfl rfl rfl (Nt rfl rfl) (qT rfl rfl rfl (qM rfl (qU rfl rfl rfl (Fa rfl rfl ty78 rfl (by decide)) (qU rfl rfl rfl (Fa rfl rfl ty54 rfl (by decide)) (qU rfl rfl rfl (Ld rfl rfl rfl rfl ty4 rfl) (qU rfl rfl rfl (Nt rfl rfl) (qT rfl rfl rfl (qA rfl (Nl (Wz ⟨.inl rfl,_,mt,Rc (Rt rfl) (Rv),aM,?_⟩))))))))))))))))))))))))))))))))))
    exact ⟨rfl,rfl⟩
def arpB (a:Arp):List Int:=[0,1,8,0,6,4,0,IntKind.u8.wrap a.op]++a.fm++addrL a.fr++a.tm++addrL a.tt
theorem arpB_len {a:Arp} (h1:a.fm.length=6) (h2:a.tm.length=6) (h3:a.fr.v6=false) (h4:a.tt.v6=false):(arpB a).length=28:=by
  unfold arpB
  simp [List.length_append,h1,h2,addrL_len,h3,h4]
set_option maxHeartbeats 2000000 in
theorem encO_any (a:Arp) (h1:a.fm.length=6) (h2:a.tm.length=6) (hv:arpV a=true) (u1:U64 a.fr.hi∧U64 a.fr.lo) (u2:U64 a.tt.hi∧U64 a.tt.lo):AFn Tryz.prog 68 0 [.agg (arpC a)] mt (.tup [.osl 0 0 28 1,.base (.int .i64 0)]) (up mt 0 (some (bytesC (arpB a)))):=by
  refine AFn.eq Tryz.func68 rfl rfl (Nat.le_of_ble_eq_true rfl) ?_
  have hva:=arpX_yes a h1 h2 hv
  unfold arpV ip4 at hv
  simp only [Bool.and_eq_true,Bool.or_eq_true,Bool.not_eq_true'] at hv
  obtain ⟨hop,⟨e1,e2⟩,e3,e4⟩:=hv
  have b1:=bytesX_any a.fr e1 u1.1 u1.2
  have b2:=bytesX_any a.tt e3 u2.1 u2.2
  have l1:=addrL_len a.fr
  have l2:=addrL_len a.tt
  rw [e2] at l1
  rw [e4] at l2
  unfold arpB
  obtain ⟨op,fm,fr,tm,tt⟩:=a
  dsimp only at *
  generalize addrL fr=L1 at *
  generalize addrL tt=L2 at *
  have l1:L1.length=4:=l1
  have l2:L2.length=4:=l2
  obtain ⟨x0,x1,x2,x3,rfl⟩:∃ a b c d,L1=[a,b,c,d]:=by
    match L1,l1 with
    | [a,b,c,d],_=>exact ⟨_,_,_,_,rfl⟩
  obtain ⟨y0,y1,y2,y3,rfl⟩:∃ a b c d,L2=[a,b,c,d]:=by
    match L2,l2 with
    | [a,b,c,d],_=>exact ⟨_,_,_,_,rfl⟩
  obtain ⟨m0,m1,m2,m3,m4,m5,rfl⟩:=six_of h1
  obtain ⟨n0,n1,n2,n3,n4,n5,rfl⟩:=six_of h2
  refine Wq (qW 0 3 rfl (qC rfl (qA rfl (qA rfl (Nl (Wq (Wq (qW 7 10 rfl (qG rfl ty78 rfl (Tl rfl) (qY rfl (hva) fok123 rfl (qO rfl (Nl (Wo rfl rfl (Wu (W.frzo (t:=1) rfl rfl rfl (Wq (Wd 20 28 (by decide) rfl mixed rfl (qI rfl ty78 rfl (Od rfl rfl (Li rfl rfl rfl ty3 rfl) (Od rfl rfl (LO.conv rfl rfl ty3 ty5) (Od rfl rfl (LO.buildSlice rfl ty24 ty5 (by decide) (by decide) (.cons rfl rfl rfl rfl (Sl rfl) (.cons rfl rfl rfl rfl (Sl rfl) (.cons rfl rfl rfl rfl (Sl rfl) (.cons rfl rfl rfl rfl (Sl rfl) (.cons rfl rfl rfl rfl (Sl rfl) (.cons rfl rfl rfl rfl (Sl rfl) (.cons rfl rfl rfl rfl (Sl rfl) (.cons rfl rfl rfl rfl (Sl rfl) .nil))))))))) (qI rfl ty78 rfl (Od rfl rfl (LO.slice_imm rfl rfl ty23 ty5 (Tl rfl) (by decide)) (Od rfl rfl (Lap rfl rfl (Ssi rfl rfl rfl) rfl (Tl rfl) ty24 ty24 ty5 (by decide) (by omega) (by omega) (by decide)) (qA rfl (Nl ⟨by kernel_rfl,(Wq (Wd 32 41 (by decide) rfl mixed rfl (qM rfl (qI rfl ty78 rfl (Od rfl rfl (Lg rfl rfl ty54 rfl (Tl rfl)) (Od rfl rfl (LO.callO (fr:=[]) rfl rfl (b1) fok85 (.cons rfl (.pure rfl) .nil) rfl (by decide)) (Od rfl rfl (Lap rfl rfl (Sso rfl rfl (Tl rfl)) rfl (Tl rfl) ty24 ty24 ty5 (by decide) (by omega) (by omega) (by decide)) (qI rfl ty78 rfl (Od rfl rfl (LO.slice_imm rfl rfl ty23 ty5 (Tl rfl) (by decide)) (Od rfl rfl (Lap rfl rfl (Ssi rfl rfl rfl) rfl (Tl rfl) ty24 ty24 ty5 (by decide) (by omega) (by omega) (by decide)) (qA rfl (Nl ⟨by kernel_rfl,(Wq (qW 45 52 rfl (qM rfl (qI rfl ty78 rfl (Od rfl rfl (Lg rfl rfl ty54 rfl (Tl rfl)) (Od rfl rfl (LO.callO (fr:=[]) rfl rfl (b2) fok85 (.cons rfl (.pure rfl) .nil) rfl (by decide)) (Od rfl rfl (Lap rfl rfl (Sso rfl rfl (Tl rfl)) rfl (Tl rfl) ty24 ty24 ty5 (by decide) (by omega) (by omega) (by decide)) (qA rfl (qA rfl (Nl (W.rename [(0,49)] 1 (T':=up (up mt 3 (some (.base (.int .i64 0)))) 2 (some (.osl 0 0 28 1))) (H':=up mt 0 (some (bytesC ([0,1,8,0,6,4,0,IntKind.u8.wrap op]++[m0,m1,m2,m3,m4,m5]++[x0,x1,x2,x3]++[n0,n1,n2,n3,n4,n5]++[y0,y1,y2,y3])))) (by decide) ?_ ?_ ?_)))))))))))⟩))))))))))))⟩))))))))))))))))))))))))))
  · exact aU (lI rfl) (aU (lR rfl) aM)
  · exact aU (kR rfl) aM
  refine Wz ⟨.inl rfl,_,up mt 0 (some (bytesC ([0,1,8,0,6,4,0,IntKind.u8.wrap op]++[m0,m1,m2,m3,m4,m5]++[x0,x1,x2,x3]++[n0,n1,n2,n3,n4,n5]++[y0,y1,y2,y3]))),Rc (Rt rfl) (Rc (Rt rfl) Rv),aU rfl aM,?_⟩
  exact ⟨rfl,rfl⟩
end Go.Proofs.YtlcndmciognneaaGreatDoor
namespace Go.Proofs.YtlcndmciognneaaGreatDoor
open Go.RowKit
theorem nextV_bd (l:List Int) (at_:Nat) (n:Int) (hn:1≤n):0≤nextV l at_ n∧nextV l at_ n < n:=by
  unfold nextV
  split
  · exact ⟨Int.emod_nonneg _ (by omega),Int.emod_lt_of_pos _ (by omega)⟩
  · omega
end Go.Proofs.YtlcndmciognneaaGreatDoor
