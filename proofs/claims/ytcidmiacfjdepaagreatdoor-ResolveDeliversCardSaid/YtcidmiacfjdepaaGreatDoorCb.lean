/-
  Reading a packet: the program and the document.
-/
import Derived.Test.YtcidmiacfjdepaaGreatDoorCa
import Derived.Test.YtcidmiacfjdepaaGreatDoorMab
namespace Go.Proofs.YtcidmiacfjdepaaGreatDoor
open Go.RowKit
def fin (p:Pk) (e:Int):Int:=if e=0 then (if vpk p then 0 else 3) else e
def dcP (b:List Int):Pk:=if gB b 0 / 16=4 then p4 b else p6 b
def dcE (b:List Int):Int:=if b.length=0 then 4 else if gB b 0 / 16=4 then fin (p4 b) (c4 b) else if gB b 0 / 16=6 then fin (p6 b) (c6 b) else 5
theorem sh4 (x:Int) (_hx:0≤x∧x≤255):x.fdiv (2 ^ (min (4:Int).toNat IntKind.u8.bits))=x / 16:=by
  rw [show (2:Int) ^ (min (4:Int).toNat IntKind.u8.bits)=16 from by decide,Int.fdiv_eq_ediv_of_nonneg _ (by decide)]
theorem shl8 (x:Int) (hx:0≤x∧x≤255):IntKind.i64.wrap (x * 2 ^ (min (8:Int).toNat IntKind.i64.bits))=x * 256:=by
  rw [show (2:Int) ^ (min (8:Int).toNat IntKind.i64.bits)=256 from by decide];exact IntWalk.i64_in _ (by omega)
theorem fin_cases (q:Pk) (e:Int):((e == 0)=false∧(e != 0)=true∧fin q e=e∧e≠0)∨(e=0∧vpk q=false∧fin q e=3)∨(e=0∧vpk q=true∧fin q e=0):=by
  unfold fin
  by_cases h:e=0
  · subst h
    cases hv:vpk q
    · exact .inr (.inl ⟨rfl,rfl,rfl⟩)
    · exact .inr (.inr ⟨rfl,rfl,rfl⟩)
  · exact .inl ⟨by simpa using h,by simpa using h,if_neg h,h⟩
set_option maxHeartbeats 2000000 in
theorem pdec_any (b:List Int) (hB:IsB b) (hl:b.length≤1000000):AFn Tryz.prog 26 0 [.isl (bytesC b) b.length] mt (rdV (dcP b) (dcE b)) mt:=by
  refine AFn.eq Tryz.func26 rfl rfl (Nat.le_of_ble_eq_true rfl) ?_
  have b0:=hB.at 0
  have hsh:=sh4 _ b0
  by_cases h0:b.length=0
  · have g1:((b.length:Int) == 0)=true:=by rw [h0];rfl
    have hd:dcE b=4:=by unfold dcE;rw [if_pos h0]
    rw [hd,rdV_bad (by decide)]
    refine Wq (qW 0 2 rfl rfl rfl (qB rfl ty74 (qA rfl rfl (Nl (Wq (Wq (qW 6 9 rfl rfl rfl (qM rfl rfl (qH rfl rfl rfl ty24 (qE rfl rfl rfl (Nl (Wt rfl ‹_› (Wq (qW 13 16 rfl rfl rfl (Od rfl rfl (Bs rfl ty74 .nil) (qS rfl rfl rfl rfl rfl ty74 rfl rfl (Sl rfl) (qA rfl rfl (Nl (W.nilc (q:=0) (j:=8) rfl rfl (Sl rfl) ?_)))))))))))))))))))
    refine W.ret ⟨.inl rfl,_,mt,(RVs.cons (RV.cellA rfl rfl ty74 rfl (Tk.lit rfl)) (RVs.cons (RV.tmp rfl) RVs.nil)),(by (repeat' (first|exact all_mt|refine all_up ?_ ?_))<;>rfl),?_⟩
    exact ⟨rfl,rfl⟩
  have g1:((b.length:Int) == 0)=false:=by rw [beq_eq_false_iff_ne];omega
  have hat0:=by_at (l:=b) (k:=0) (by omega)
  have hcase:(gB b 0 / 16=4∧dcP b=p4 b∧dcE b=fin (p4 b) (c4 b))∨((gB b 0 / 16 == 4)=false∧gB b 0 / 16=6∧dcP b=p6 b∧dcE b=fin (p6 b) (c6 b))∨((gB b 0 / 16 == 4)=false∧(gB b 0 / 16 == 6)=false∧dcE b=5):=by
    unfold dcP dcE
    by_cases c1:gB b 0 / 16=4
    · exact .inl ⟨c1,if_pos c1,by rw [if_neg h0,if_pos c1]⟩
    · by_cases c2:gB b 0 / 16=6
      · exact .inr (.inl ⟨by simpa using c1,c2,if_neg c1,by rw [if_neg h0,if_neg c1,if_pos c2]⟩)
      · exact .inr (.inr ⟨by simpa using c1,by simpa using c2,by rw [if_neg h0,if_neg c1,if_neg c2]⟩)
  have hf4:=four_any b hB hl
  have hf6:=six_any b hB hl
  refine Wq (qW 0 2 rfl rfl rfl (qB rfl ty74 (qA rfl rfl (Nl (Wq (Wq (qW 6 9 rfl rfl rfl (qM rfl rfl (qH rfl rfl rfl ty24 (qE rfl rfl rfl (Nl (Wf rfl ‹_› (Wk (Wq (qW 20 21 rfl rfl rfl (qB rfl ty74 (Nl (Wq (qW 25 26 rfl rfl rfl (qA rfl rfl (Nl (Wq (Wq (qW 30 34 rfl rfl rfl (qM rfl rfl (qJ rfl rfl rfl rfl rfl ty24 ty5 (by first|omega|decide|assumption|(simp;done)|(simp;omega)) (Od rfl rfl (Li rfl rfl hat0 ty5 rfl) (Od rfl rfl (LO.shr rfl rfl rfl (by first|omega|decide|assumption|(simp;done)|(simp;omega))) (Nl ?_)))))))))))))))))))))))))))))
  rw [hsh]
  refine Wb ?_
  rcases hcase with ⟨c1,hd1,hd2⟩|⟨c1,c2,hd1,hd2⟩|⟨c1,c2,hd2⟩
  case' inl =>
    rw [c1,hd1,hd2]
    obtain ⟨q,hq⟩:∃ q,p4 b=q:=⟨_,rfl⟩
    obtain ⟨e,he⟩:∃ e,c4 b=e:=⟨_,rfl⟩
    rw [hq,he] at hf4 ⊢
    unfold rdV at hf4
    obtain ⟨Q,hQ⟩:∃ Q,(if e=0 then q else zPk)=Q:=⟨_,rfl⟩
    rw [hQ] at hf4
    refine Wq (qW 38 40 rfl rfl rfl (qE rfl rfl rfl (qA rfl rfl (Nl (Wt rfl (rfl) (qW 44 51 rfl rfl rfl (qM rfl rfl (Od rfl rfl (C0 (fr:=[]) rfl rfl (hf4) fok56 (.cons rfl (.pure rfl) .nil) rfl) (qM rfl rfl (qX rfl rfl rfl (qX rfl rfl rfl (qS rfl rfl rfl rfl rfl ty74 rfl rfl (Sl rfl) (qA rfl rfl (Nl ?_))))))))))))))
  case' inr.inl =>
    rw [c2,hd1,hd2]
    obtain ⟨q,hq⟩:∃ q,p6 b=q:=⟨_,rfl⟩
    obtain ⟨e,he⟩:∃ e,c6 b=e:=⟨_,rfl⟩
    rw [hq,he] at hf6 ⊢
    unfold rdV at hf6
    obtain ⟨Q,hQ⟩:∃ Q,(if e=0 then q else zPk)=Q:=⟨_,rfl⟩
    rw [hQ] at hf6
    refine Wq (qW 38 40 rfl rfl rfl (qE rfl rfl rfl (qA rfl rfl (Nl (Wf rfl (rfl) (Wq (qW 55 57 rfl rfl rfl (qE rfl rfl rfl (qA rfl rfl (Nl (Wt rfl (rfl) (qW 61 68 rfl rfl rfl (qM rfl rfl (Od rfl rfl (C0 (fr:=[]) rfl rfl (hf6) fok57 (.cons rfl (.pure rfl) .nil) rfl) (qM rfl rfl (qX rfl rfl rfl (qX rfl rfl rfl (qS rfl rfl rfl rfl rfl ty74 rfl rfl (Sl rfl) (qA rfl rfl (Nl ?_))))))))))))))))))))
  case' inr.inr =>
    rw [hd2,rdV_bad (by decide)]
    refine Wq (qW 38 40 rfl rfl rfl (qE rfl rfl rfl (qA rfl rfl (Nl (Wf rfl ‹_› (Wq (qW 55 57 rfl rfl rfl (qE rfl rfl rfl (qA rfl rfl (Nl (Wf rfl ‹_› (qW 72 73 rfl rfl rfl (qA rfl rfl (Nl (Wq (Wq (qW 77 84 rfl rfl rfl (qM rfl rfl (qE rfl rfl rfl (qM rfl rfl (Sd rfl rfl rfl rfl rfl (Sd rfl rfl rfl rfl rfl (Sd rfl rfl rfl rfl rfl (qP rfl rfl rfl rfl (Nl (Wf rfl (rfl) (Wk (Wq (Wq (qW 93 95 rfl rfl rfl (qM rfl rfl (qN rfl rfl rfl (Nl (Wt rfl (rfl) (Wq (qW 99 103 rfl rfl rfl (Od rfl rfl (Bs rfl ty74 .nil) (qM rfl rfl (qS rfl rfl rfl rfl rfl ty74 rfl rfl (Sl rfl) (qA rfl rfl (Nl (W.nilc (q:=0) (j:=8) rfl rfl (Sl rfl) ?_))))))))))))))))))))))))))))))))))))))))))
    refine W.ret ⟨.inl rfl,_,mt,(RVs.cons (RV.cellA rfl rfl ty74 rfl (Tk.lit rfl)) (RVs.cons (RV.tmp rfl) RVs.nil)),(by (repeat' (first|exact all_mt|refine all_up ?_ ?_))<;>rfl),?_⟩
    exact ⟨rfl,rfl⟩
  all_goals
    have hpv:=pvalid_any Q
    rcases fin_cases q e with ⟨f1,f2,f3,f4⟩|⟨rfl,f2,f3⟩|⟨rfl,f2,f3⟩
    · rw [f3,rdV_bad f4]
      repeat (refine W.seq ?_)
      refine qW 77 84 rfl rfl rfl (qM rfl rfl (qE rfl rfl rfl (qM rfl rfl (Sd rfl rfl rfl ‹_› rfl (Sd rfl rfl rfl ‹_› rfl (Sd rfl rfl rfl ‹_› rfl (qP rfl rfl ‹_› rfl (Nl (Wf rfl rfl (Wk ?_))))))))))
      repeat (refine W.seq ?_)
      refine qW 93 95 rfl rfl rfl (qM rfl rfl (qN rfl rfl rfl (Nl (Wt rfl ‹_› ?_))))
      repeat (refine W.seq ?_)
      refine qW 99 103 rfl rfl rfl (Od rfl rfl (Bs rfl ty74 .nil) (qM rfl rfl (qS rfl rfl rfl rfl rfl ty74 rfl rfl (Sl rfl) (qA rfl rfl (Nl (W.nilc (q:=0) (j:=8) rfl rfl (Sl rfl) ?_))))))
      refine W.ret ⟨.inl rfl,_,mt,(RVs.cons (RV.cellA rfl rfl ty74 rfl (Tk.lit rfl)) (RVs.cons (RV.tmp rfl) RVs.nil)),(by (repeat' (first|exact all_mt|refine all_up ?_ ?_))<;>rfl),?_⟩
      exact ⟨rfl,rfl⟩
    · have hQ2:Q=q:=hQ.symm
      subst hQ2
      rw [f2] at hpv
      rw [f3,rdV_bad (by decide)]
      repeat (refine W.seq ?_)
      refine qW 77 84 rfl rfl rfl (qM rfl rfl (qE rfl rfl rfl (qM rfl rfl (Gd rfl rfl rfl rfl rfl (La rfl rfl rfl ty74 rfl (Tl rfl)) (Gd rfl rfl rfl rfl rfl (C0 (fr:=[]) rfl rfl (hpv) fok58 (.cons rfl (.pure (pkC_pure Q)) .nil) rfl) (Gd rfl rfl rfl rfl rfl (Nt rfl rfl) (qT rfl rfl rfl rfl (Nl (Wt rfl (rfl) (qW 88 89 rfl rfl rfl (qA rfl rfl (Nl ?_))))))))))))
      repeat (refine W.seq ?_)
      refine qW 93 95 rfl rfl rfl (qM rfl rfl (qN rfl rfl rfl (Nl (Wt rfl (rfl) ?_))))
      repeat (refine W.seq ?_)
      refine qW 99 103 rfl rfl rfl (Od rfl rfl (Bs rfl ty74 .nil) (qM rfl rfl (qS rfl rfl rfl rfl rfl ty74 rfl rfl (Sl rfl) (qA rfl rfl (Nl (W.nilc (q:=0) (j:=8) rfl rfl (Sl rfl) ?_))))))
      refine W.ret ⟨.inl rfl,_,mt,(RVs.cons (RV.cellA rfl rfl ty74 rfl (Tk.lit rfl)) (RVs.cons (RV.tmp rfl) RVs.nil)),(by (repeat' (first|exact all_mt|refine all_up ?_ ?_))<;>rfl),?_⟩
      exact ⟨rfl,rfl⟩
    · have hQ2:Q=q:=hQ.symm
      subst hQ2
      rw [f2] at hpv
      rw [f3,rdV_ok]
      repeat (refine W.seq ?_)
      refine qW 77 84 rfl rfl rfl (qM rfl rfl (qE rfl rfl rfl (qM rfl rfl (Gd rfl rfl rfl rfl rfl (La rfl rfl rfl ty74 rfl (Tl rfl)) (Gd rfl rfl rfl rfl rfl (C0 (fr:=[]) rfl rfl (hpv) fok58 (.cons rfl (.pure (pkC_pure Q)) .nil) rfl) (Gd rfl rfl rfl rfl rfl (Nt rfl rfl) (qT rfl rfl rfl rfl (Nl (Wf rfl (rfl) (Wk ?_))))))))))
      repeat (refine W.seq ?_)
      refine qW 93 95 rfl rfl rfl (qM rfl rfl (qN rfl rfl rfl (Nl (Wf rfl (rfl) (Wk ?_)))))
      repeat (refine W.seq ?_)
      refine qW 107 110 rfl rfl rfl (qG rfl rfl rfl ty74 rfl (Tl rfl) (qS rfl rfl rfl rfl rfl ty74 rfl rfl (Sl rfl) (qA rfl rfl (Nl ?_))))
      refine W.ret ⟨.inl rfl,_,mt,(RVs.cons (RV.cellA rfl rfl ty74 rfl (pk_tk Q)) (RVs.cons (RV.tmp rfl) RVs.nil)),(by (repeat' (first|exact all_mt|refine all_up ?_ ?_))<;>rfl),?_⟩
      exact ⟨rfl,rfl⟩
theorem ended_any (p:Pk):AFn Tryz.prog 66 0 [.agg (pkC p)] mt (rdV p (fin p 0)) mt:=by
  refine AFn.eq Tryz.func66 rfl rfl (Nat.le_of_ble_eq_true rfl) ?_
  have hv:=rpvalid_any p
  unfold fin
  rw [if_pos rfl]
  cases c:vpk p
  · rw [c] at hv
    rw [if_neg (by decide),rdV_bad (by decide)]
    refine Wq (qW 0 3 rfl rfl rfl (qC rfl rfl rfl (qB rfl ty74 (qA rfl rfl (Nl (Wq (Wq (qW 7 10 rfl rfl rfl (qG rfl rfl rfl ty74 rfl (Tl rfl) (Od rfl rfl (C0 (fr:=[]) rfl rfl (hv) fok68 (.cons rfl (.pure (pkC_pure p)) .nil) rfl) (qO rfl rfl (Nl (Wt rfl rfl (Wq (qW 14 17 rfl rfl rfl (Od rfl rfl (Bs rfl ty74 .nil) (qS rfl rfl rfl rfl rfl ty74 rfl rfl (Sl rfl) (qA rfl rfl (Nl (W.nilc (q:=1) (j:=8) rfl rfl (Sl rfl) ?_))))))))))))))))))))
    refine W.ret ⟨.inl rfl,_,mt,(RVs.cons (RV.cellA rfl rfl ty74 rfl (Tk.lit rfl)) (RVs.cons (RV.tmp rfl) RVs.nil)),(by (repeat' (first|exact all_mt|refine all_up ?_ ?_))<;>rfl),?_⟩
    exact ⟨rfl,rfl⟩
  · rw [c] at hv
    rw [if_pos rfl,rdV_ok]
    refine Wq (qW 0 3 rfl rfl rfl (qC rfl rfl rfl (qB rfl ty74 (qA rfl rfl (Nl (Wq (Wq (qW 7 10 rfl rfl rfl (qG rfl rfl rfl ty74 rfl (Tl rfl) (Od rfl rfl (C0 (fr:=[]) rfl rfl (hv) fok68 (.cons rfl (.pure (pkC_pure p)) .nil) rfl) (qO rfl rfl (Nl (Wf rfl rfl (Wk (Wq (qW 21 24 rfl rfl rfl (qG rfl rfl rfl ty74 rfl (Tl rfl) (qS rfl rfl rfl rfl rfl ty74 rfl rfl (Sl rfl) (qA rfl rfl (Nl ?_))))))))))))))))))))
    refine W.ret ⟨.inl rfl,_,mt,(RVs.cons (RV.cellA rfl rfl ty74 rfl (pk_tk p)) (RVs.cons (RV.tmp rfl) RVs.nil)),(by (repeat' (first|exact all_mt|refine all_up ?_ ?_))<;>rfl),?_⟩
    exact ⟨rfl,rfl⟩
end Go.Proofs.YtcidmiacfjdepaaGreatDoor
