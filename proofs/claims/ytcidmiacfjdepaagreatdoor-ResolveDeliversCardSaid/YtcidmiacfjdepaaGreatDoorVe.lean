/-
  Reading a message of address resolution, by the document.
-/
import Derived.Test.YtcidmiacfjdepaaGreatDoorJo
import Derived.Test.YtcidmiacfjdepaaGreatDoorMab
namespace Go.Proofs.YtcidmiacfjdepaaGreatDoor
open Go.RowKit
theorem fb4 {a b c d:Int} (h:IsB [a,b,c,d]):(fb [a,b,c,d]).1=0∧(fb [a,b,c,d]).2=((a * 256 + b) * 256 + c) * 256 + d:=by
  have ha:=h a (by simp)
  have hb:=h b (by simp)
  have hc:=h c (by simp)
  have hd:=h d (by simp)
  have e:fb [a,b,c,d]=fbStep (fbStep (fbStep (fbStep (0,0) a) b) c) d:=rfl
  rw [e]
  have z:U64 0:=by unfold U64;decide
  have k1:=fbStep_val (a:=(0,0)) z z ha
  obtain ⟨u1,v1⟩:=fbStep_bd (0,0) a
  generalize fbStep (0,0) a=s1 at *
  have k2:=fbStep_val u1 v1 hb
  obtain ⟨u2,v2⟩:=fbStep_bd s1 b
  generalize fbStep s1 b=s2 at *
  have k3:=fbStep_val u2 v2 hc
  obtain ⟨u3,v3⟩:=fbStep_bd s2 c
  generalize fbStep s2 c=s3 at *
  have k4:=fbStep_val u3 v3 hd
  obtain ⟨u4,v4⟩:=fbStep_bd s3 d
  generalize fbStep s3 d=s4 at *
  unfold U64 at *
  dsimp only at k1
  omega
theorem ip4_fb {a b c d:Int} (h:IsB [a,b,c,d]):ip4 (fbA false [a,b,c,d])=true:=by
  obtain ⟨h1,h2⟩:=fb4 h
  have ha:=h a (by simp)
  have hb:=h b (by simp)
  have hc:=h c (by simp)
  have hd:=h d (by simp)
  unfold ip4 fbA validA
  dsimp only
  rw [h1,h2]
  simp
  omega
theorem LO.neq_head {o:Oper} {E:Operand→Option AV} {H:Hp} {f:Nat} {t ty:TypeId} {x y:Operand} {l:List Int} {s:ByteArray} (ho:o.op=.binOp .neq t x y ty) (hx:E x=some (.base (.string (strOfNums l)))) (hy:E y=some (.base (.string s))) (hs:s.toList=(strOfNums [0,1,8,0,6,4]).toList):LO Tryz.prog o E H f [] [] (.base (.bool (!hdE l))) H:=by
  have:=LO.neq_str (P:=Tryz.prog) (H:=H) (f:=f) ho hx hy
  rw [hs] at this
  exact this
theorem decAS (b:List Int) (h:b.length < 28):AFn Tryz.prog 28 0 [.isl (bytesC b) b.length] mt (arpR b) mt:=by
  refine AFn.eq Tryz.func28 rfl rfl (Nat.le_of_ble_eq_true rfl) ?_
  have g1:decide ((b.length:Int) < 28)=true:=decide_eq_true (by omega)
  have e1:arpR b=.tup [.agg (arpC zArp),.base (.int .i64 4)]:=by unfold arpR arpE;rw [if_pos h];rfl
  rw [e1]
  refine Wq (qW 0 2 rfl rfl rfl (qB rfl ty64 (qA rfl rfl (Nl (Wq (Wq (qW 6 9 rfl rfl rfl (qM rfl rfl (qH rfl rfl rfl ty24 (qK rfl rfl rfl (Nl (Wt rfl ‹_› (Wq (qW 13 16 rfl rfl rfl (Od rfl rfl (Bs rfl ty64 .nil) (qS rfl rfl rfl rfl rfl ty64 rfl rfl (Sl rfl) (qA rfl rfl (Nl ?_))))))))))))))))))
  refine W.ret ⟨.inl rfl,_,mt,(RVs.cons (RV.cellA rfl rfl ty64 rfl (Tk.lit rfl)) (RVs.cons (RV.tmp rfl) RVs.nil)),(by (repeat' (first|exact all_mt|refine all_up ?_ ?_))<;>rfl),?_⟩
  exact ⟨rfl,rfl⟩
set_option maxHeartbeats 2000000 in
theorem decAD (b:List Int) (hB:IsB b) (h:28≤b.length):AFn Tryz.prog 28 0 [.isl (bytesC b) b.length] mt (arpR b) mt:=by
  refine AFn.eq Tryz.func28 rfl rfl (Nat.le_of_ble_eq_true rfl) ?_
  obtain ⟨n,hn⟩:∃ n,b.length=n:=⟨_,rfl⟩
  have g1:decide ((n:Int) < 28)=false:=decide_eq_false (by omega)
  have h28:28≤n:=by omega
  have f1:=fromX_any ((b.drop 14).take 4) (hB.drop 14 |>.take 4) (.inl (by rw [List.length_take,List.length_drop];omega))
  have f2:=fromX_any ((b.drop 24).take 4) (hB.drop 24 |>.take 4) (.inl (by rw [List.length_take,List.length_drop];omega))
  have i1:IsB ((b.drop 14).take 4):=(hB.drop 14).take 4
  have i2:IsB ((b.drop 24).take 4):=(hB.drop 24).take 4
  obtain ⟨a0,a1,a2,a3,a4,a5,a6,a7,a8,a9,a10,a11,a12,a13,a14,a15,a16,a17,a18,a19,a20,a21,a22,a23,a24,a25,a26,a27,r,rfl⟩:=head28 h
  rw [hn]
  have b6:0≤a6∧a6≤255:=hB.at 6
  have b7:0≤a7∧a7≤255:=hB.at 7
  have f1:AFn Tryz.prog 65 0 [.isl (bytesC [a14,a15,a16,a17]) 4] mt (.tup [.agg (adC (fbA false [a14,a15,a16,a17])),.base (.int .i64 0)]) mt:=f1
  have f2:AFn Tryz.prog 65 0 [.isl (bytesC [a24,a25,a26,a27]) 4] mt (.tup [.agg (adC (fbA false [a24,a25,a26,a27])),.base (.int .i64 0)]) mt:=f2
  have j1:=ip4_fb i1
  have j2:=ip4_fb i2
  obtain ⟨op,hop⟩:∃ op,bitV .or .i64 (IntKind.i64.wrap (a6 * 2 ^ (min (8:Int).toNat IntKind.i64.bits))) a7=op:=⟨_,rfl⟩
  have ha:arpOf (a0::a1::a2::a3::a4::a5::a6::a7::a8::a9::a10::a11::a12::a13::a14::a15::a16::a17::a18::a19::a20::a21::a22::a23::a24::a25::a26::a27::r)=⟨op,[a8,a9,a10,a11,a12,a13],fbA false [a14,a15,a16,a17],[a18,a19,a20,a21,a22,a23],fbA false [a24,a25,a26,a27]⟩:=by rw [← hop];rfl
  have he:arpE (a0::a1::a2::a3::a4::a5::a6::a7::a8::a9::a10::a11::a12::a13::a14::a15::a16::a17::a18::a19::a20::a21::a22::a23::a24::a25::a26::a27::r)=if hdE [a0,a1,a2,a3,a4,a5] && (op == 1 || op == 2) then 0 else 5:=by
    unfold arpE
    rw [if_neg (by omega),ha]
    unfold arpV
    dsimp only
    rw [j1,j2]
    simp only [Bool.and_true]
    rfl
  unfold arpR
  rw [ha,he]
  clear ha he hB h j1 j2 i1 i2
  generalize fbA false [a14,a15,a16,a17]=fa at *
  generalize fbA false [a24,a25,a26,a27]=ta at *
  generalize hh:hdE [a0,a1,a2,a3,a4,a5]=hd at *
  have t24:Tk (bytesC (a0::a1::a2::a3::a4::a5::a6::a7::a8::a9::a10::a11::a12::a13::a14::a15::a16::a17::a18::a19::a20::a21::a22::a23::a24::a25::a26::a27::r)) (24 * 1) ((28 - 24) * 1) (bytesC [a24,a25,a26,a27]):=by
    show Tk _ 24 4 _
    iterate 24 refine Tk.skip ?_
    iterate 4 refine Tk.cons ?_
    exact Tk.nil
  refine Wq (qW 0 2 rfl rfl rfl (qB rfl ty64 (qA rfl rfl (Nl (Wq (Wq (qW 6 9 rfl rfl rfl (qM rfl rfl (qH rfl rfl rfl ty24 (qK rfl rfl rfl (Nl (Wf rfl ‹_› (Wk (Wq (Wd 20 31 (by decide) rfl mixed rfl (qM rfl rfl (qJ rfl rfl rfl rfl rfl ty24 ty5 (by first|omega|decide|assumption|(simp;done)|(simp;omega)) (Od rfl rfl (Li rfl rfl rfl ty5 rfl) (Od rfl rfl (Ci rfl rfl ty5 ty3 (by (first|exact IntWalk.i64_in _ (by omega)|assumption))) (Od rfl rfl (LO.shl rfl rfl rfl (by first|omega|decide|assumption|(simp;done)|(simp;omega))) (qM rfl rfl (qJ rfl rfl rfl rfl rfl ty24 ty5 (by first|omega|decide|assumption|(simp;done)|(simp;omega)) (Od rfl rfl (Li rfl rfl rfl ty5 rfl) (Od rfl rfl (Ci rfl rfl ty5 ty3 (by (first|exact IntWalk.i64_in _ (by omega)|assumption))) (Od rfl rfl (LO.or rfl rfl rfl) (qA rfl rfl (Nl ⟨by kernel_rfl,?_⟩)))))))))))))))))))))))))))
  rw [hop]
  have hcase:hd=false∨(hd=true∧(op != 1)=false)∨(hd=true∧(op != 1)=true∧(op != 2)=false)∨(hd=true∧(op != 1)=true∧(op != 2)=true):=by
    cases hd
    · exact .inl rfl
    · by_cases e1:op=1
      · exact .inr (.inl ⟨rfl,by simpa using e1⟩)
      · by_cases e2:op=2
        · exact .inr (.inr (.inl ⟨rfl,by simpa using e1,by simpa using e2⟩))
        · exact .inr (.inr (.inr ⟨rfl,by simpa using e1,by simpa using e2⟩))
  rcases hcase with rfl|⟨rfl,k1⟩|⟨rfl,k1,k2⟩|⟨rfl,k1,k2⟩
  case' inl =>
    have nh:(!hdE [a0,a1,a2,a3,a4,a5])=true:=by rw [hh];rfl
    refine Wq (Wq (qW 35 47 rfl rfl rfl (qM rfl rfl (Od rfl rfl (Lsi rfl rfl rfl Bnd.no (Ba rfl rfl) (by first|omega|decide|assumption|(simp;done)|(simp;omega)) (by first|omega|decide|assumption|(simp;done)|(simp;omega)) ty24 ty5 (Tl rfl)) (Od rfl rfl (LO.str (xs:=[a0,a1,a2,a3,a4,a5]) rfl rfl Tryz.underlying24 Tryz.underlying5 Tryz.underlying9) (Od rfl rfl (LO.neq_head rfl rfl rfl (by rfl)) (qM rfl rfl (Sd rfl rfl rfl ‹_› rfl (Sd rfl rfl rfl ‹_› rfl (Sd rfl rfl rfl ‹_› rfl (Ud rfl rfl rfl rfl (Ud rfl rfl rfl rfl (Sd rfl rfl rfl ‹_› rfl (qT rfl rfl ‹_› rfl (Nl (Wt rfl rfl (Wq (qW 51 54 rfl rfl rfl (Od rfl rfl (Bs rfl ty64 .nil) (qS rfl rfl rfl rfl rfl ty64 rfl rfl (Sl rfl) (qA rfl rfl (Nl ?_))))))))))))))))))))))
    refine W.ret ⟨.inl rfl,_,mt,(RVs.cons (RV.cellA rfl rfl ty64 rfl (Tk.lit rfl)) (RVs.cons (RV.tmp rfl) RVs.nil)),(by (repeat' (first|exact all_mt|refine all_up ?_ ?_))<;>rfl),?_⟩
    exact ⟨rfl,rfl⟩
  case' inr.inl =>
    have nh:(!hdE [a0,a1,a2,a3,a4,a5])=false:=by rw [hh];rfl
    have hv:(true && (op == 1 || op == 2))=true:=by simp at k1;simp [k1]
    rw [hv]
    refine Wq (Wq (qW 35 47 rfl rfl rfl (qM rfl rfl (Od rfl rfl (Lsi rfl rfl rfl Bnd.no (Ba rfl rfl) (by first|omega|decide|assumption|(simp;done)|(simp;omega)) (by first|omega|decide|assumption|(simp;done)|(simp;omega)) ty24 ty5 (Tl rfl)) (Od rfl rfl (LO.str (xs:=[a0,a1,a2,a3,a4,a5]) rfl rfl Tryz.underlying24 Tryz.underlying5 Tryz.underlying9) (Od rfl rfl (LO.neq_head rfl rfl rfl (by rfl)) (qM rfl rfl (Gd rfl rfl rfl ‹_› rfl (Mv rfl rfl) (Gd rfl rfl rfl ‹_› rfl (Ne0 rfl rfl rfl) (Gd rfl rfl rfl ‹_› rfl (Mv rfl rfl) (Sd rfl rfl rfl ‹_› rfl (Sd rfl rfl rfl ‹_› rfl (Gd rfl rfl rfl ‹_› rfl (Pf0 rfl rfl ‹_› rfl) (qP rfl rfl ‹_› rfl (Nl (Wf rfl rfl (Wk ?_)))))))))))))))))
  case' inr.inr.inl =>
    have nh:(!hdE [a0,a1,a2,a3,a4,a5])=false:=by rw [hh];rfl
    have hv:(true && (op == 1 || op == 2))=true:=by simp at k2;simp [k2]
    rw [hv]
    refine Wq (Wq (qW 35 47 rfl rfl rfl (qM rfl rfl (Od rfl rfl (Lsi rfl rfl rfl Bnd.no (Ba rfl rfl) (by first|omega|decide|assumption|(simp;done)|(simp;omega)) (by first|omega|decide|assumption|(simp;done)|(simp;omega)) ty24 ty5 (Tl rfl)) (Od rfl rfl (LO.str (xs:=[a0,a1,a2,a3,a4,a5]) rfl rfl Tryz.underlying24 Tryz.underlying5 Tryz.underlying9) (Od rfl rfl (LO.neq_head rfl rfl rfl (by rfl)) (qM rfl rfl (Gd rfl rfl rfl ‹_› rfl (Mv rfl rfl) (Gd rfl rfl rfl ‹_› rfl (Ne0 rfl rfl rfl) (Gd rfl rfl rfl ‹_› rfl (Mv rfl rfl) (Gd rfl rfl rfl ‹_› rfl (Mv rfl rfl) (Gd rfl rfl rfl ‹_› rfl (Ne0 rfl rfl rfl) (Gd rfl rfl rfl ‹_› rfl (Pt rfl rfl ‹_› rfl) (qP rfl rfl ‹_› rfl (Nl (Wf rfl ‹_› (Wk ?_)))))))))))))))))
  case' inr.inr.inr =>
    have nh:(!hdE [a0,a1,a2,a3,a4,a5])=false:=by rw [hh];rfl
    have hv:(true && (op == 1 || op == 2))=false:=by simp at k1 k2;simp [k1,k2]
    rw [hv]
    refine Wq (Wq (qW 35 47 rfl rfl rfl (qM rfl rfl (Od rfl rfl (Lsi rfl rfl rfl Bnd.no (Ba rfl rfl) (by first|omega|decide|assumption|(simp;done)|(simp;omega)) (by first|omega|decide|assumption|(simp;done)|(simp;omega)) ty24 ty5 (Tl rfl)) (Od rfl rfl (LO.str (xs:=[a0,a1,a2,a3,a4,a5]) rfl rfl Tryz.underlying24 Tryz.underlying5 Tryz.underlying9) (Od rfl rfl (LO.neq_head rfl rfl rfl (by rfl)) (qM rfl rfl (Gd rfl rfl rfl ‹_› rfl (Mv rfl rfl) (Gd rfl rfl rfl ‹_› rfl (Ne0 rfl rfl rfl) (Gd rfl rfl rfl ‹_› rfl (Mv rfl rfl) (Gd rfl rfl rfl ‹_› rfl (Mv rfl rfl) (Gd rfl rfl rfl ‹_› rfl (Ne0 rfl rfl rfl) (Gd rfl rfl rfl ‹_› rfl (Pt rfl rfl ‹_› rfl) (qP rfl rfl ‹_› rfl (Nl (Wt rfl ‹_› (Wq (qW 51 54 rfl rfl rfl (Od rfl rfl (Bs rfl ty64 .nil) (qS rfl rfl rfl rfl rfl ty64 rfl rfl (Sl rfl) (qA rfl rfl (Nl ?_))))))))))))))))))))))
    refine W.ret ⟨.inl rfl,_,mt,(RVs.cons (RV.cellA rfl rfl ty64 rfl (Tk.lit rfl)) (RVs.cons (RV.tmp rfl) RVs.nil)),(by (repeat' (first|exact all_mt|refine all_up ?_ ?_))<;>rfl),?_⟩
    exact ⟨rfl,rfl⟩
  all_goals
    repeat (refine W.seq ?_)
    refine qW 58 67 rfl rfl rfl (qM rfl rfl (Od rfl rfl (Lsi rfl rfl rfl (Ba rfl rfl) (Ba rfl rfl) (by first|omega|decide|assumption|(simp;done)|(simp;omega)) (by first|omega|decide|assumption|(simp;done)|(simp;omega)) ty24 ty5 (Tl rfl)) (Od rfl rfl (C0 (fr:=[]) rfl rfl (f1) fok65 (.cons rfl (.pure rfl) .nil) rfl) (qM rfl rfl (qX rfl rfl rfl (qX rfl rfl rfl (qB rfl ty42 (qS rfl rfl rfl rfl rfl ty42 rfl rfl (Sl rfl) (qA rfl rfl (Nl ?_))))))))))
    repeat (refine W.seq ?_)
    refine qW 71 80 rfl rfl rfl (qM rfl rfl (Od rfl rfl (Lsi rfl rfl rfl (Ba rfl rfl) (Ba rfl rfl) (by first|omega|decide|assumption|(simp;done)|(simp;omega)) (by first|omega|decide|assumption|(simp;done)|(simp;omega)) ty24 ty5 t24) (Od rfl rfl (C0 (fr:=[]) rfl rfl (f2) fok65 (.cons rfl (.pure rfl) .nil) rfl) (qM rfl rfl (qX rfl rfl rfl (qX rfl rfl rfl (qB rfl ty42 (qS rfl rfl rfl rfl rfl ty42 rfl rfl (Sl rfl) (qA rfl rfl (Nl ?_))))))))))
    repeat (refine W.seq ?_)
    refine Wd 84 98 (by decide) rfl mixed rfl (qM rfl rfl (qM rfl rfl (Od rfl rfl (Lsi rfl rfl rfl (Ba rfl rfl) (Ba rfl rfl) (by first|omega|decide|assumption|(simp;done)|(simp;omega)) (by first|omega|decide|assumption|(simp;done)|(simp;omega)) ty24 ty5 (Tl rfl)) (Od rfl rfl (LO.toArr rfl rfl rfl ty23 (by decide) (by first|omega|decide|assumption|(simp;done)|(simp;omega))) (Od rfl rfl (Lg rfl rfl ty23 rfl (Tl rfl)) (qG rfl rfl rfl ty42 rfl (Tl rfl) (qM rfl rfl (Od rfl rfl (Lsi rfl rfl rfl (Ba rfl rfl) (Ba rfl rfl) (by first|omega|decide|assumption|(simp;done)|(simp;omega)) (by first|omega|decide|assumption|(simp;done)|(simp;omega)) ty24 ty5 (Tl rfl)) (Od rfl rfl (LO.toArr rfl rfl rfl ty23 (by decide) (by first|omega|decide|assumption|(simp;done)|(simp;omega))) (Od rfl rfl (Lg rfl rfl ty23 rfl (Tl rfl)) (qG rfl rfl rfl ty42 rfl (Tl rfl) (Od rfl rfl (Bs rfl ty64 (.cons rfl rfl rfl rfl (Sl rfl) (.cons rfl rfl rfl rfl (Sl rfl) (.cons rfl rfl rfl rfl (Sl rfl) (.cons rfl rfl rfl rfl (Sl rfl) (.cons rfl rfl rfl rfl (Sl rfl) .nil)))))) (qS rfl rfl rfl rfl rfl ty64 rfl rfl (Sl rfl) (qA rfl rfl (Nl ⟨by kernel_rfl,?_⟩)))))))))))))))
    refine W.ret ⟨.inl rfl,_,mt,(RVs.cons (RV.cellA rfl rfl ty64 rfl (Tk.lit rfl)) (RVs.cons (RV.tmp rfl) RVs.nil)),(by (repeat' (first|exact all_mt|refine all_up ?_ ?_))<;>rfl),?_⟩
    exact ⟨rfl,rfl⟩
theorem decA_any (b:List Int) (hB:IsB b):AFn Tryz.prog 28 0 [.isl (bytesC b) b.length] mt (arpR b) mt:=by
  rcases Nat.lt_or_ge b.length 28 with h|h
  · exact decAS b h
  · exact decAD b hB h
end Go.Proofs.YtcidmiacfjdepaaGreatDoor
