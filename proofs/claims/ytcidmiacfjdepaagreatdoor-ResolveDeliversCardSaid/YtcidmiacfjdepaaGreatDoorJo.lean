/-
  Reading a message of address resolution; which port a station or an address belongs to.
-/
import Derived.Test.YtcidmiacfjdepaaGreatDoorJn
import Derived.Test.YtcidmiacfjdepaaGreatDoorMab
namespace Go.Proofs.YtcidmiacfjdepaaGreatDoor
open Go.RowKit
def hdE (l:List Int):Bool:=(strOfNums l).toList == (strOfNums [0,1,8,0,6,4]).toList
def opOf (b:List Int):Int:=bitV .or .i64 (IntKind.i64.wrap (gB b 6 * 2 ^ (min (8:Int).toNat IntKind.i64.bits))) (gB b 7)
def arpOf (b:List Int):Arp:=⟨opOf b,(b.drop 8).take 6,fbA false ((b.drop 14).take 4),(b.drop 18).take 6,fbA false ((b.drop 24).take 4)⟩
def arpE (b:List Int):Int:=if b.length < 28 then 4 else if hdE (b.take 6) && arpV (arpOf b) then 0 else 5
def arpR (b:List Int):AV:=.tup [.agg (arpC (if arpE b=0 then arpOf b else zArp)),.base (.int .i64 (arpE b))]
theorem head28 {b:List Int} (h:28≤b.length):∃ a0 a1 a2 a3 a4 a5 a6 a7 a8 a9 a10 a11 a12 a13 a14 a15 a16 a17 a18 a19 a20 a21 a22 a23 a24 a25 a26 a27 r,b=a0::a1::a2::a3::a4::a5::a6::a7::a8::a9::a10::a11::a12::a13::a14::a15::a16::a17::a18::a19::a20::a21::a22::a23::a24::a25::a26::a27::r:=by
  have h1:b=b.take 28++b.drop 28:=(List.take_append_drop 28 b).symm
  have h2:(b.take 28).length=28:=by rw [List.length_take];omega
  generalize b.take 28=t at h1 h2
  match t,h2 with
  | [a0,a1,a2,a3,a4,a5,a6,a7,a8,a9,a10,a11,a12,a13,a14,a15,a16,a17,a18,a19,a20,a21,a22,a23,a24,a25,a26,a27],_=>exact ⟨_,_,_,_,_,_,_,_,_,_,_,_,_,_,_,_,_,_,_,_,_,_,_,_,_,_,_,_,_,h1⟩
theorem arpS (b:List Int) (h:b.length < 28):AFn Tryz.prog 24 0 [.isl (bytesC b) b.length] mt (arpR b) mt:=by
  refine AFn.eq Tryz.func24 rfl rfl (Nat.le_of_ble_eq_true rfl) ?_
  have g1:decide ((b.length:Int) < 28)=true:=decide_eq_true (by omega)
  have e1:arpR b=.tup [.agg (arpC zArp),.base (.int .i64 4)]:=by unfold arpR arpE;rw [if_pos h];rfl
  rw [e1]
  refine Wq (qW 0 2 rfl rfl rfl (qB rfl ty64 (qA rfl rfl (Nl (Wq (Wq (qW 6 9 rfl rfl rfl (qM rfl rfl (qH rfl rfl rfl ty24 (qK rfl rfl rfl (Nl (Wt rfl ‹_› (Wq (qW 13 16 rfl rfl rfl (Od rfl rfl (Bs rfl ty64 .nil) (qS rfl rfl rfl rfl rfl ty64 rfl rfl (Sl rfl) (qA rfl rfl (Nl ?_))))))))))))))))))
  refine W.ret ⟨.inl rfl,_,mt,(RVs.cons (RV.cellA rfl rfl ty64 rfl (Tk.lit rfl)) (RVs.cons (RV.tmp rfl) RVs.nil)),(by (repeat' (first|exact all_mt|refine all_up ?_ ?_))<;>rfl),?_⟩
  exact ⟨rfl,rfl⟩
theorem eqB_any (a:List Int):AFn Tryz.prog 54 0 [.isl (bytesC a) a.length,.isl (bytesC [0,1,8,0,6,4]) 6] mt (.base (.bool (hdE a))) mt:=by
  refine AFn.eq Tryz.func54 rfl rfl (Nat.le_of_ble_eq_true rfl) (Wq (qW 0 1 rfl rfl rfl (qA rfl rfl (Nl (Wq (qW 5 11 rfl rfl rfl (qM rfl rfl (Od rfl rfl (LO.str (xs:=a) rfl rfl Tryz.underlying24 Tryz.underlying5 Tryz.underlying9) (qM rfl rfl (Od rfl rfl (LO.str (xs:=[0,1,8,0,6,4]) rfl rfl Tryz.underlying24 Tryz.underlying5 Tryz.underlying9) (Od rfl rfl (LO.eql_str rfl rfl rfl) (qA rfl rfl (Nl (Wz ⟨.inl rfl,_,mt,Rc (Rt rfl) (Rn),all_mt,?_⟩))))))))))))))
  exact ⟨rfl,rfl⟩
set_option maxHeartbeats 2000000 in
theorem arpD (b:List Int) (hB:IsB b) (h:28≤b.length):AFn Tryz.prog 24 0 [.isl (bytesC b) b.length] mt (arpR b) mt:=by
  refine AFn.eq Tryz.func24 rfl rfl (Nat.le_of_ble_eq_true rfl) ?_
  obtain ⟨n,hn⟩:∃ n,b.length=n:=⟨_,rfl⟩
  have g1:decide ((n:Int) < 28)=false:=decide_eq_false (by omega)
  have h28:28≤n:=by omega
  have hal:(arpOf b).fm.length=6∧(arpOf b).tm.length=6:=by
    unfold arpOf
    constructor
    · show ((b.drop 8).take 6).length=6
      rw [List.length_take,List.length_drop];omega
    · show ((b.drop 18).take 6).length=6
      rw [List.length_take,List.length_drop];omega
  have hv:=arpV_any (arpOf b) hal.1 hal.2
  have f1:=from_any ((b.drop 14).take 4) (hB.drop 14 |>.take 4) (.inl (by rw [List.length_take,List.length_drop];omega))
  have f2:=from_any ((b.drop 24).take 4) (hB.drop 24 |>.take 4) (.inl (by rw [List.length_take,List.length_drop];omega))
  have hh:=eqB_any (b.take 6)
  obtain ⟨a0,a1,a2,a3,a4,a5,a6,a7,a8,a9,a10,a11,a12,a13,a14,a15,a16,a17,a18,a19,a20,a21,a22,a23,a24,a25,a26,a27,r,rfl⟩:=head28 h
  rw [hn]
  have b6:0≤a6∧a6≤255:=hB.at 6
  have b7:0≤a7∧a7≤255:=hB.at 7
  have f1:AFn Tryz.prog 53 0 [.isl (bytesC [a14,a15,a16,a17]) 4] mt (.tup [.agg (adC (fbA false [a14,a15,a16,a17])),.base (.int .i64 0)]) mt:=f1
  have f2:AFn Tryz.prog 53 0 [.isl (bytesC [a24,a25,a26,a27]) 4] mt (.tup [.agg (adC (fbA false [a24,a25,a26,a27])),.base (.int .i64 0)]) mt:=f2
  have hh:AFn Tryz.prog 54 0 [.isl (bytesC [a0,a1,a2,a3,a4,a5]) 6,.isl (bytesC [0,1,8,0,6,4]) 6] mt (.base (.bool (hdE [a0,a1,a2,a3,a4,a5]))) mt:=hh
  obtain ⟨op,hop⟩:∃ op,bitV .or .i64 (IntKind.i64.wrap (a6 * 2 ^ (min (8:Int).toNat IntKind.i64.bits))) a7=op:=⟨_,rfl⟩
  have ha:arpOf (a0::a1::a2::a3::a4::a5::a6::a7::a8::a9::a10::a11::a12::a13::a14::a15::a16::a17::a18::a19::a20::a21::a22::a23::a24::a25::a26::a27::r)=⟨op,[a8,a9,a10,a11,a12,a13],fbA false [a14,a15,a16,a17],[a18,a19,a20,a21,a22,a23],fbA false [a24,a25,a26,a27]⟩:=by rw [← hop];rfl
  have he:arpE (a0::a1::a2::a3::a4::a5::a6::a7::a8::a9::a10::a11::a12::a13::a14::a15::a16::a17::a18::a19::a20::a21::a22::a23::a24::a25::a26::a27::r)=if hdE [a0,a1,a2,a3,a4,a5] && arpV ⟨op,[a8,a9,a10,a11,a12,a13],fbA false [a14,a15,a16,a17],[a18,a19,a20,a21,a22,a23],fbA false [a24,a25,a26,a27]⟩ then 0 else 5:=by
    unfold arpE
    rw [if_neg (by omega),ha]
    rfl
  unfold arpR
  rw [ha] at hv ⊢
  rw [he]
  clear ha he hal hB h
  generalize fbA false [a14,a15,a16,a17]=fa at *
  generalize fbA false [a24,a25,a26,a27]=ta at *
  generalize hdE [a0,a1,a2,a3,a4,a5]=hd at *
  obtain ⟨v,hvv⟩:∃ v,arpV ⟨op,[a8,a9,a10,a11,a12,a13],fa,[a18,a19,a20,a21,a22,a23],ta⟩=v:=⟨_,rfl⟩
  rw [hvv] at hv ⊢
  have t24:Tk (bytesC (a0::a1::a2::a3::a4::a5::a6::a7::a8::a9::a10::a11::a12::a13::a14::a15::a16::a17::a18::a19::a20::a21::a22::a23::a24::a25::a26::a27::r)) (24 * 1) ((28 - 24) * 1) (bytesC [a24,a25,a26,a27]):=by
    show Tk _ 24 4 _
    iterate 24 refine Tk.skip ?_
    iterate 4 refine Tk.cons ?_
    exact Tk.nil
  refine Wq (qW 0 2 rfl rfl rfl (qB rfl ty64 (qA rfl rfl (Nl (Wq (Wq (qW 6 9 rfl rfl rfl (qM rfl rfl (qH rfl rfl rfl ty24 (qK rfl rfl rfl (Nl (Wf rfl ‹_› (Wk (Wq (Wd 20 41 (by decide) rfl mixed rfl (qM rfl rfl (qJ rfl rfl rfl rfl rfl ty24 ty5 (by first|omega|decide|assumption|(simp;done)|(simp;omega)) (Od rfl rfl (Li rfl rfl rfl ty5 rfl) (Od rfl rfl (Ci rfl rfl ty5 ty3 (by (first|exact IntWalk.i64_in _ (by omega)|assumption))) (Od rfl rfl (LO.shl rfl rfl rfl (by first|omega|decide|assumption|(simp;done)|(simp;omega))) (qM rfl rfl (qJ rfl rfl rfl rfl rfl ty24 ty5 (by first|omega|decide|assumption|(simp;done)|(simp;omega)) (Od rfl rfl (Li rfl rfl rfl ty5 rfl) (Od rfl rfl (Ci rfl rfl ty5 ty3 (by (first|exact IntWalk.i64_in _ (by omega)|assumption))) (Od rfl rfl (LO.or rfl rfl rfl) (qM rfl rfl (Od rfl rfl (Lsi rfl rfl rfl (Ba rfl rfl) (Ba rfl rfl) (by first|omega|decide|assumption|(simp;done)|(simp;omega)) (by first|omega|decide|assumption|(simp;done)|(simp;omega)) ty24 ty5 (Tl rfl)) (Od rfl rfl (LO.toArr rfl rfl rfl ty23 (by decide) (by first|omega|decide|assumption|(simp;done)|(simp;omega))) (Od rfl rfl (Lg rfl rfl ty23 rfl (Tl rfl)) (qM rfl rfl (Od rfl rfl (Lsi rfl rfl rfl (Ba rfl rfl) (Ba rfl rfl) (by first|omega|decide|assumption|(simp;done)|(simp;omega)) (by first|omega|decide|assumption|(simp;done)|(simp;omega)) ty24 ty5 (Tl rfl)) (Od rfl rfl (LO.toArr rfl rfl rfl ty23 (by decide) (by first|omega|decide|assumption|(simp;done)|(simp;omega))) (Od rfl rfl (Lg rfl rfl ty23 rfl (Tl rfl)) (Od rfl rfl (Bs rfl ty64 (.cons rfl rfl rfl rfl (Sl rfl) (.cons rfl rfl rfl rfl (Sl rfl) (.cons rfl rfl rfl rfl (Sl rfl) .nil)))) (qB rfl ty64 (qS rfl rfl rfl rfl rfl ty64 rfl rfl (Sl rfl) (Nl ⟨by kernel_rfl,?_⟩)))))))))))))))))))))))))))))))))))))
  rw [hop]
  refine Wq (qW 45 53 rfl rfl rfl (qM rfl rfl (Od rfl rfl (Lsi rfl rfl rfl (Ba rfl rfl) (Ba rfl rfl) (by first|omega|decide|assumption|(simp;done)|(simp;omega)) (by first|omega|decide|assumption|(simp;done)|(simp;omega)) ty24 ty5 (Tl rfl)) (Od rfl rfl (C0 (fr:=[]) rfl rfl (f1) fok53 (.cons rfl (.pure rfl) .nil) rfl) (qM rfl rfl (qX rfl rfl rfl (qX rfl rfl rfl (qF rfl rfl ty64 rfl rfl (qS rfl rfl rfl rfl rfl ty42 rfl rfl (Sl rfl) (Nl (Wq (qW 57 65 rfl rfl rfl (qM rfl rfl (Od rfl rfl (Lsi rfl rfl rfl (Ba rfl rfl) (Ba rfl rfl) (by first|omega|decide|assumption|(simp;done)|(simp;omega)) (by first|omega|decide|assumption|(simp;done)|(simp;omega)) ty24 ty5 t24) (Od rfl rfl (C0 (fr:=[]) rfl rfl (f2) fok53 (.cons rfl (.pure rfl) .nil) rfl) (qM rfl rfl (qX rfl rfl rfl (qX rfl rfl rfl (qF rfl rfl ty64 rfl rfl (qS rfl rfl rfl rfl rfl ty42 rfl rfl (Sl rfl) (Nl ?_)))))))))))))))))))))
  cases hd
  case' false =>
    refine Wq (Wq (Wd 69 79 (by decide) rfl mixed rfl (qM rfl rfl (Od rfl rfl (Lsi rfl rfl rfl Bnd.no (Ba rfl rfl) (by first|omega|decide|assumption|(simp;done)|(simp;omega)) (by first|omega|decide|assumption|(simp;done)|(simp;omega)) ty24 ty5 (Tl rfl)) (Od rfl rfl (LO.glob 0 rfl rfl rfl (LO.slice_imm rfl rfl ty22 ty5 (Tl rfl) (by decide))) (Od rfl rfl (C0 (fr:=[]) rfl rfl (hh) fok54 (.cons rfl (.pure rfl) (.cons rfl (.pure rfl) .nil)) rfl) (qO rfl rfl (qM rfl rfl (Sd rfl rfl rfl rfl rfl (Sd rfl rfl rfl rfl rfl (Sd rfl rfl rfl rfl rfl (qT rfl rfl rfl rfl (Nl ⟨by kernel_rfl,(Wt rfl rfl (Wq (qW 83 86 rfl rfl rfl (Od rfl rfl (Bs rfl ty64 .nil) (qS rfl rfl rfl rfl rfl ty64 rfl rfl (Sl rfl) (qA rfl rfl (Nl ?_)))))))⟩)))))))))))))
    refine W.ret ⟨.inl rfl,_,mt,(RVs.cons (RV.cellA rfl rfl ty64 rfl (Tk.lit rfl)) (RVs.cons (RV.tmp rfl) RVs.nil)),(by (repeat' (first|exact all_mt|refine all_up ?_ ?_))<;>rfl),?_⟩
    exact ⟨rfl,rfl⟩
  case' true =>
    cases v
    case' false =>
      refine Wq (Wq (Wd 69 79 (by decide) rfl mixed rfl (qM rfl rfl (Od rfl rfl (Lsi rfl rfl rfl Bnd.no (Ba rfl rfl) (by first|omega|decide|assumption|(simp;done)|(simp;omega)) (by first|omega|decide|assumption|(simp;done)|(simp;omega)) ty24 ty5 (Tl rfl)) (Od rfl rfl (LO.glob 0 rfl rfl rfl (LO.slice_imm rfl rfl ty22 ty5 (Tl rfl) (by decide))) (Od rfl rfl (C0 (fr:=[]) rfl rfl (hh) fok54 (.cons rfl (.pure rfl) (.cons rfl (.pure rfl) .nil)) rfl) (qO rfl rfl (qM rfl rfl (Gd rfl rfl rfl rfl rfl (La rfl rfl rfl ty64 rfl (Tl rfl)) (Gd rfl rfl rfl rfl rfl (C0 (fr:=[]) rfl rfl (hv) fok55 (.cons rfl (.pure rfl) .nil) rfl) (Gd rfl rfl rfl rfl rfl (Nt rfl rfl) (qP rfl rfl rfl rfl (Nl ⟨by kernel_rfl,(Wt rfl rfl (Wq (qW 83 86 rfl rfl rfl (Od rfl rfl (Bs rfl ty64 .nil) (qS rfl rfl rfl rfl rfl ty64 rfl rfl (Sl rfl) (qA rfl rfl (Nl ?_)))))))⟩)))))))))))))
      refine W.ret ⟨.inl rfl,_,mt,(RVs.cons (RV.cellA rfl rfl ty64 rfl (Tk.lit rfl)) (RVs.cons (RV.tmp rfl) RVs.nil)),(by (repeat' (first|exact all_mt|refine all_up ?_ ?_))<;>rfl),?_⟩
      exact ⟨rfl,rfl⟩
    case' true =>
      refine Wq (Wq (Wd 69 79 (by decide) rfl mixed rfl (qM rfl rfl (Od rfl rfl (Lsi rfl rfl rfl Bnd.no (Ba rfl rfl) (by first|omega|decide|assumption|(simp;done)|(simp;omega)) (by first|omega|decide|assumption|(simp;done)|(simp;omega)) ty24 ty5 (Tl rfl)) (Od rfl rfl (LO.glob 0 rfl rfl rfl (LO.slice_imm rfl rfl ty22 ty5 (Tl rfl) (by decide))) (Od rfl rfl (C0 (fr:=[]) rfl rfl (hh) fok54 (.cons rfl (.pure rfl) (.cons rfl (.pure rfl) .nil)) rfl) (qO rfl rfl (qM rfl rfl (Gd rfl rfl rfl rfl rfl (La rfl rfl rfl ty64 rfl (Tl rfl)) (Gd rfl rfl rfl rfl rfl (C0 (fr:=[]) rfl rfl (hv) fok55 (.cons rfl (.pure rfl) .nil) rfl) (Gd rfl rfl rfl rfl rfl (Nt rfl rfl) (qP rfl rfl rfl rfl (Nl ⟨by kernel_rfl,(Wf rfl rfl (Wk (Wq (qW 90 93 rfl rfl rfl (qG rfl rfl rfl ty64 rfl (Tl rfl) (qS rfl rfl rfl rfl rfl ty64 rfl rfl (Sl rfl) (qA rfl rfl (Nl ?_))))))))⟩)))))))))))))
      refine W.ret ⟨.inl rfl,_,mt,(RVs.cons (RV.cellA rfl rfl ty64 rfl (Tk.lit rfl)) (RVs.cons (RV.tmp rfl) RVs.nil)),(by (repeat' (first|exact all_mt|refine all_up ?_ ?_))<;>rfl),?_⟩
      exact ⟨rfl,rfl⟩
theorem arp_any (b:List Int) (hB:IsB b):AFn Tryz.prog 24 0 [.isl (bytesC b) b.length] mt (arpR b) mt:=by
  rcases Nat.lt_or_ge b.length 28 with h|h
  · exact arpS b h
  · exact arpD b hB h
/-- the first rule that has a station -/
def whereF:List Rl→List Int→Option Rl
  | [],_=>none
  | r::l,m=>if m∈r.macs then some r else whereF l m
def whereV (l:List Rl) (m:List Int):AV:=match whereF l m with
  | some r=>.tup [.base (.int .i64 r.port),.base (.bool true)]
  | none=>.tup [.base (.int .i64 0),.base (.bool false)]
theorem whereF_drop {l:List Rl} {m:List Int} {i:Nat} (h:i < l.length) (e:m ∉ l[i].macs):whereF (l.drop i) m=whereF (l.drop (i + 1)) m:=by
  rw [List.drop_eq_getElem_cons h]
  show (if m∈l[i].macs then some l[i] else whereF (l.drop (i + 1)) m)=_
  rw [if_neg e]
theorem whereF_at {l:List Rl} {m:List Int} {i:Nat} (h:i < l.length) (e:m∈l[i].macs):whereF (l.drop i) m=some l[i]:=by
  rw [List.drop_eq_getElem_cons h]
  show (if m∈l[i].macs then some l[i] else whereF (l.drop (i + 1)) m)=_
  rw [if_pos e]
theorem where_any (l:List Rl) (m:List Int) (hm:m.length=6) (hl:l.length≤100000) (hr:∀ r,r∈l→r.macs.length≤1000∧∀ x,x∈r.macs→x.length=6):AFn Tryz.prog 74 0 [.isl (rulesC l) l.length,.agg (bytesC m)] mt (whereV l m) mt:=by
  refine AFn.eq Tryz.func74 rfl rfl (Nat.le_of_ble_eq_true rfl) (Wq (qW 0 3 rfl rfl rfl (qC rfl rfl rfl (qA rfl rfl (qA rfl rfl (Nl (Wq (Wq (qW 7 10 rfl rfl rfl (qM rfl rfl (qH rfl rfl rfl ty30 (qM rfl rfl (Nl (Wb (W.rename [(0,0)] 1 (T':=up (up (up (up mt 3 (some (.own 0 0))) 8 (some (.isl (rulesC l) l.length))) 9 (some (.base (.int .i64 (l.length:Int))))) 10 (some (.base (.int .i64 (0:Int))))) (H':=up mt 0 (some (bytesC m))) (by decide) ?_ ?_ ?_)))))))))))))))
  · (repeat' (first|exact all_mt|refine all_up ?_ ?_))<;>first|exact .inl ⟨rfl,rfl⟩|exact .inr ⟨rfl,fun _ h=>by cases h⟩|exact .inl ⟨rfl,by first|rfl|assumption|exact (bytesC_pure _)⟩
  · (repeat' (first|exact all_mt|refine all_up ?_ ?_))<;>first|exact ⟨rfl,_,rfl,.inr ⟨rfl,rfl⟩⟩|exact ⟨rfl,_,rfl,.inl rfl⟩|exact ⟨rfl,_,rfl,.inr ⟨rfl,by first|rfl|assumption|exact (bytesC_pure _)⟩⟩
  refine W.loop_ind (α:=Nat) (fun x=>l.length - x) 1 (fun x=>up (up (up (up mt 3 (some (.own 0 0))) 8 (some (.isl (rulesC l) l.length))) 9 (some (.base (.int .i64 (l.length:Int))))) 10 (some (.base (.int .i64 (x:Int))))) (fun x=>up mt 0 (some (bytesC m))) (fun x=>x≤l.length∧whereF l m=whereF (l.drop x) m) 0 (show 0≤l.length∧whereF l m=whereF (l.drop 0) m from ⟨Nat.zero_le _,rfl⟩) ?_
  rintro i hIA ihA
  try (dsimp only at hIA)
  try dsimp only
  obtain ⟨hi,hw⟩:=hIA
  by_cases hc:i < l.length
  · have g1:decide ((i:Int) < (l.length:Int))=true:=decide_eq_true (by omega)
    have hri:=hr _ (List.getElem_mem hc)
    have hcon:=hasM_any l[i].macs m hri.2 hm hri.1
    have hat:=whereF_at (m:=m) hc
    have hdr:=whereF_drop (m:=m) hc
    refine Wq (qW 14 15 rfl rfl rfl (qK rfl rfl rfl (Nl (Wq (Wt rfl ‹_› (Wk (Wq (Wb (Wq (qW 19 23 rfl rfl rfl (qJ rfl rfl rfl rfl rfl ty30 ty35 (by first|omega|decide|assumption|(simp;done)|(simp;omega)) (Od rfl rfl (Lg rfl rfl ty35 rfl (rules_tk hc)) (qB rfl ty35 (qS rfl rfl rfl rfl rfl ty35 rfl rfl (Sl rfl) (Nl ?_)))))))))))))))
    generalize l[i]=r at *
    cases hv:decide (m∈r.macs)
    · have hn:¬ m∈r.macs:=of_decide_eq_false hv
      rw [hv] at hcon
      refine Wq (qW 27 31 rfl rfl rfl (qF rfl rfl ty35 rfl rfl (qL rfl rfl rfl rfl ty32 rfl (qG rfl rfl rfl ty23 rfl (bytes_tk hm) (Od rfl rfl (C0 (fr:=[]) rfl rfl (hcon) fok93 (.cons rfl (.pure rfl) (.cons rfl (.pure (bytesC_pure _)) .nil)) rfl) (Nl (Wf rfl rfl (Wk (qW 43 45 rfl rfl rfl (qZ rfl rfl rfl (by (first|exact IntWalk.i64_in _ (by omega)|assumption)) (qM rfl rfl (Nl (WL.rename [(0,0)] 1 (by decide) ?_ ?_ (ihA (i + 1) (show l.length - (i + 1) < l.length - i from by omega) (show (i + 1)≤l.length∧whereF l m=whereF (l.drop (i + 1)) m from ⟨by omega,hw.trans (hdr hn)⟩)))))))))))))))
      · (repeat' (first|exact all_mt|refine all_up ?_ ?_))<;>first|exact .inl ⟨rfl,rfl⟩|exact .inr ⟨rfl,fun _ h=>by cases h⟩|exact .inl ⟨rfl,by first|rfl|assumption|exact (bytesC_pure _)⟩
      · (repeat' (first|exact all_mt|refine all_up ?_ ?_))<;>first|exact ⟨rfl,_,rfl,.inr ⟨rfl,rfl⟩⟩|exact ⟨rfl,_,rfl,.inl rfl⟩|exact ⟨rfl,_,rfl,.inr ⟨rfl,by first|rfl|assumption|exact (bytesC_pure _)⟩⟩
    · have hn:m∈r.macs:=of_decide_eq_true hv
      rw [hv] at hcon
      refine Wq (qW 27 31 rfl rfl rfl (qF rfl rfl ty35 rfl rfl (qL rfl rfl rfl rfl ty32 rfl (qG rfl rfl rfl ty23 rfl (bytes_tk hm) (Od rfl rfl (C0 (fr:=[]) rfl rfl (hcon) fok93 (.cons rfl (.pure rfl) (.cons rfl (.pure (bytesC_pure _)) .nil)) rfl) (Nl (Wt rfl rfl (Wq (qW 35 39 rfl rfl rfl (qF rfl rfl ty35 rfl rfl (qL rfl rfl rfl rfl ty3 rfl (qA rfl rfl (qA rfl rfl (Nl ?_))))))))))))))
      refine W.ret ⟨.inl rfl,_,mt,(RVs.cons (RV.tmp rfl) (RVs.cons (RV.tmp rfl) RVs.nil)),(by (repeat' (first|exact all_mt|refine all_up ?_ ?_))<;>rfl),?_⟩
      exact ⟨by unfold whereV;rw [hw,hat hn];rfl,rfl⟩
  · have g1:decide ((i:Int) < (l.length:Int))=false:=decide_eq_false (by omega)
    refine Wq (qW 14 15 rfl rfl rfl (qK rfl rfl rfl (Nl (Wq (Wf rfl ‹_› (Wx ?_))))))
    obtain rfl:i=l.length:=by omega
    refine Wq (qW 49 51 rfl rfl rfl (qA rfl rfl (qA rfl rfl (Nl ?_))))
    refine W.ret ⟨.inl rfl,_,mt,(RVs.cons (RV.tmp rfl) (RVs.cons (RV.tmp rfl) RVs.nil)),(by (repeat' (first|exact all_mt|refine all_up ?_ ?_))<;>rfl),?_⟩
    exact ⟨by unfold whereV;rw [hw,List.drop_length];rfl,rfl⟩
/-- the first binding of an address -/
def boundF:List Bd→Ad→Option Bd
  | [],_=>none
  | b::l,a=>if eqA b.ad a then some b else boundF l a
def zBd:Bd:=⟨⟨false,0,0⟩,[0,0,0,0,0,0],0⟩
def boundV (l:List Bd) (a:Ad):AV:=match boundF l a with
  | some b=>.tup [.agg (bdC b),.base (.bool true)]
  | none=>.tup [.agg (bdC zBd),.base (.bool false)]
theorem bound_any (l:List Bd) (a:Ad) (hl:l.length≤100000) (hm:MacOk l):AFn Tryz.prog 75 0 [.isl (bdsC l) l.length,.agg (adC a)] mt (boundV l a) mt:=by
  refine AFn.eq Tryz.func75 rfl rfl (Nat.le_of_ble_eq_true rfl) (Wq (qW 0 3 rfl rfl rfl (qC rfl rfl rfl (qB rfl ty85 (qA rfl rfl (Nl (Wq (Wq (qW 7 10 rfl rfl rfl (qM rfl rfl (qH rfl rfl rfl ty31 (qM rfl rfl (Nl (Wb (W.rename [(0,0),(1,1)] 2 (T':=up (up (up (up (up mt 3 (some (.own 0 0))) 4 (some (.own 1 0))) 8 (some (.isl (bdsC l) l.length))) 9 (some (.base (.int .i64 (l.length:Int))))) 10 (some (.base (.int .i64 (0:Int))))) (H':=up (up mt 0 (some (adC a))) 1 (some (bdC zBd))) (by decide) ?_ ?_ ?_)))))))))))))))
  · (repeat' (first|exact all_mt|refine all_up ?_ ?_))<;>first|exact .inl ⟨rfl,rfl⟩|exact .inr ⟨rfl,fun _ h=>by cases h⟩|exact .inl ⟨rfl,by first|rfl|assumption|exact (bytesC_pure _)⟩
  · (repeat' (first|exact all_mt|refine all_up ?_ ?_))<;>first|exact ⟨rfl,_,rfl,.inr ⟨rfl,rfl⟩⟩|exact ⟨rfl,_,rfl,.inl rfl⟩|exact ⟨rfl,_,rfl,.inr ⟨rfl,by first|rfl|assumption|exact (bytesC_pure _)⟩⟩
  refine W.loop_ind (α:=Nat) (fun x=>l.length - x) 2 (fun x=>up (up (up (up (up mt 3 (some (.own 0 0))) 4 (some (.own 1 0))) 8 (some (.isl (bdsC l) l.length))) 9 (some (.base (.int .i64 (l.length:Int))))) 10 (some (.base (.int .i64 (x:Int))))) (fun x=>up (up mt 0 (some (adC a))) 1 (some (bdC zBd))) (fun x=>x≤l.length∧boundF l a=boundF (l.drop x) a) 0 (show 0≤l.length∧boundF l a=boundF (l.drop 0) a from ⟨Nat.zero_le _,rfl⟩) ?_
  rintro i hIA ihA
  try (dsimp only at hIA)
  try dsimp only
  obtain ⟨hi,hw⟩:=hIA
  by_cases hc:i < l.length
  · have g1:decide ((i:Int) < (l.length:Int))=true:=decide_eq_true (by omega)
    have h6:=hm _ (List.getElem_mem hc)
    have hbt:=bds_tk hm hc
    have hdr:boundF (l.drop i) a=if eqA l[i].ad a then some l[i] else boundF (l.drop (i + 1)) a:=by
      rw [List.drop_eq_getElem_cons hc];rfl
    generalize l[i]=b at *
    obtain ⟨ad,mc,port⟩:=b
    dsimp only at h6 hdr
    match mc,h6,hbt,hdr with
    | [a0,a1,a2,a3,a4,a5],_,hbt,hdr =>
      refine Wq (qW 14 15 rfl rfl rfl (qK rfl rfl rfl (Nl (Wq (Wt rfl ‹_› (Wk (Wq (Wb (Wq (qW 19 23 rfl rfl rfl (qJ rfl rfl rfl rfl rfl ty31 ty85 (by first|omega|decide|assumption|(simp;done)|(simp;omega)) (Od rfl rfl (Lg rfl rfl ty85 rfl hbt) (qB rfl ty85 (qS rfl rfl rfl rfl rfl ty85 rfl rfl (Sl rfl) (Nl ?_)))))))))))))))
      cases he:eqA ad a
      ·
        rw [he] at hdr
        refine Wq (qW 27 31 rfl rfl rfl (qF rfl rfl ty85 rfl rfl (qG rfl rfl rfl ty42 rfl (Tl rfl) (qG rfl rfl rfl ty42 rfl (Tl rfl) (Od rfl rfl (LO.eql_ad ad a rfl rfl rfl) (Nl (Wf rfl ‹_› (Wk (qW 42 44 rfl rfl rfl (qZ rfl rfl rfl (by (first|exact IntWalk.i64_in _ (by omega)|assumption)) (qM rfl rfl (Nl (WL.rename [(0,0),(1,1)] 2 (by decide) ?_ ?_ (ihA (i + 1) (show l.length - (i + 1) < l.length - i from by omega) (show (i + 1)≤l.length∧boundF l a=boundF (l.drop (i + 1)) a from ⟨by omega,hw.trans hdr⟩)))))))))))))))
        · (repeat' (first|exact all_mt|refine all_up ?_ ?_))<;>first|exact .inl ⟨rfl,rfl⟩|exact .inr ⟨rfl,fun _ h=>by cases h⟩|exact .inl ⟨rfl,by first|rfl|assumption|exact (bytesC_pure _)⟩
        · (repeat' (first|exact all_mt|refine all_up ?_ ?_))<;>first|exact ⟨rfl,_,rfl,.inr ⟨rfl,rfl⟩⟩|exact ⟨rfl,_,rfl,.inl rfl⟩|exact ⟨rfl,_,rfl,.inr ⟨rfl,by first|rfl|assumption|exact (bytesC_pure _)⟩⟩
      ·
        rw [he] at hdr
        refine Wq (qW 27 31 rfl rfl rfl (qF rfl rfl ty85 rfl rfl (qG rfl rfl rfl ty42 rfl (Tl rfl) (qG rfl rfl rfl ty42 rfl (Tl rfl) (Od rfl rfl (LO.eql_ad ad a rfl rfl rfl) (Nl (Wt rfl ‹_› (Wq (qW 35 38 rfl rfl rfl (qG rfl rfl rfl ty85 rfl (Tl rfl) (qS rfl rfl rfl rfl rfl ty85 rfl rfl (Sl rfl) (qA rfl rfl (Nl ?_)))))))))))))
        refine W.ret ⟨.inl rfl,_,mt,(RVs.cons (RV.cellA rfl rfl ty85 rfl (Tk.lit rfl)) (RVs.cons (RV.tmp rfl) RVs.nil)),(by (repeat' (first|exact all_mt|refine all_up ?_ ?_))<;>rfl),?_⟩
        exact ⟨by unfold boundV;rw [hw,hdr];rfl,rfl⟩
  · have g1:decide ((i:Int) < (l.length:Int))=false:=decide_eq_false (by omega)
    refine Wq (qW 14 15 rfl rfl rfl (qK rfl rfl rfl (Nl (Wq (Wf rfl ‹_› (Wx ?_))))))
    obtain rfl:i=l.length:=by omega
    refine Wq (qW 48 51 rfl rfl rfl (Od rfl rfl (Bs rfl ty85 .nil) (qS rfl rfl rfl rfl rfl ty85 rfl rfl (Sl rfl) (qA rfl rfl (Nl ?_)))))
    refine W.ret ⟨.inl rfl,_,mt,(RVs.cons (RV.cellA rfl rfl ty85 rfl (Tk.lit rfl)) (RVs.cons (RV.tmp rfl) RVs.nil)),(by (repeat' (first|exact all_mt|refine all_up ?_ ?_))<;>rfl),?_⟩
    exact ⟨by unfold boundV;rw [hw,List.drop_length];rfl,rfl⟩
end Go.Proofs.YtcidmiacfjdepaaGreatDoor
