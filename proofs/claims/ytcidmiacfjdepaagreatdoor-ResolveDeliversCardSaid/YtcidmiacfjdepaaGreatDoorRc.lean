/-
  Reading a message, by the document: packets that something is wrong with ahead of the fixed bytes. Reading a message, by the document: a packet that is right so far; its fixed bytes are too short.
-/
import Derived.Test.YtcidmiacfjdepaaGreatDoorCz
import Derived.Test.YtcidmiacfjdepaaGreatDoorMab
namespace Go.Proofs.YtcidmiacfjdepaaGreatDoor
open Go.RowKit
theorem decV_bad {p:Pk} {e:Int} (h:chkE p=e) (h0:e≠0):decV p=.tup [.agg (nbC zNb),.base (.int .i64 e)]:=by unfold decV decR;rw [h,if_pos h0]
theorem chkE_cases (p:Pk) (hv:vpk p=true):((!p.s.v6)=true∧chkE p=5)∨((!p.s.v6)=false∧(p.p != 58)=true∧chkE p=5)∨((!p.s.v6)=false∧(p.p != 58)=false∧(p.t != 255)=true∧chkE p=10)∨((!p.s.v6)=false∧(p.p != 58)=false∧(p.t != 255)=false∧decide ((p.bs.length:Int) < 4)=true∧chkE p=4) ∨
    ((!p.s.v6)=false∧(p.p != 58)=false∧(p.t != 255)=false∧decide ((p.bs.length:Int) < 4)=false∧(chkF p.s p.d 58 p.bs != 0)=true∧chkE p=6) ∨
    ((!p.s.v6)=false∧(p.p != 58)=false∧(p.t != 255)=false∧decide ((p.bs.length:Int) < 4)=false∧(chkF p.s p.d 58 p.bs != 0)=false):=by
  unfold chkE
  rw [hv]
  by_cases c1:p.s.v6=true
  · by_cases c2:p.p=58
    · by_cases c3:p.t=255
      · by_cases c4:(p.bs.length:Int) < 4
        · simp [c1,c2,c3,c4]
        · by_cases c5:chkF p.s p.d 58 p.bs=0
          · simp [c1,c2,c3,c4,c5]
          · simp [c1,c2,c3,c4,c5]
      · simp [c1,c2,c3]
    · simp [c1,c2]
  · simp [c1]
set_option maxHeartbeats 1000000 in
theorem decX_bad1 (p:Pk) (hv:vpk p=false):AFn Tryz.prog 31 0 [.agg (pkC p)] mt (decV p) mt:=by
  refine AFn.eq Tryz.func31 rfl rfl (Nat.le_of_ble_eq_true rfl) ?_
  have hvp:=rpvalid_any p
  rw [hv] at hvp
  have hE:chkE p=1:=by unfold chkE;rw [hv];rfl
  rw [decV_bad hE (by decide)]
  refine Wq (qW 0 3 rfl rfl rfl (qC rfl rfl rfl (qB rfl ty78 (qA rfl rfl (Nl (Wq (qW 7 10 rfl rfl rfl (qF rfl rfl ty74 rfl rfl (qL rfl rfl rfl rfl ty24 rfl (qA rfl rfl (Nl (Wq (Wb (Wq (qW 14 18 rfl rfl rfl (qG rfl rfl rfl ty74 rfl (Tl rfl) (Od rfl rfl (C0 (fr:=[]) rfl rfl (hvp) fok68 (.cons rfl (.pure (pkC_pure p)) .nil) rfl) (qO rfl rfl (qA rfl rfl (Nl (Wt rfl rfl (Wq (qW 22 25 rfl rfl rfl (Od rfl rfl (Bs rfl ty78 .nil) (qS rfl rfl rfl rfl rfl ty78 rfl rfl (Sl rfl) (qA rfl rfl (Nl ?_)))))))))))))))))))))))))))
  refine W.ret ⟨.inl rfl,_,mt,(RVs.cons (RV.cellA rfl rfl ty78 rfl (Tk.lit rfl)) (RVs.cons (RV.tmp rfl) RVs.nil)),(by (repeat' (first|exact all_mt|refine all_up ?_ ?_))<;>rfl),?_⟩
  exact ⟨rfl,rfl⟩
set_option maxHeartbeats 4000000 in
theorem decX_bad2 (p:Pk) (hB:IsB p.bs) (s1:U64 p.s.hi) (s2:U64 p.s.lo) (d1:U64 p.d.hi) (d2:U64 p.d.lo) (hv:vpk p=true) (h0:chkE p≠0) (hk:¬ (chkE p=5∧(!p.s.v6)=false∧(p.p != 58)=false)):AFn Tryz.prog 31 0 [.agg (pkC p)] mt (decV p) mt:=by
  refine AFn.eq Tryz.func31 rfl rfl (Nat.le_of_ble_eq_true rfl) ?_
  have hvp:=rpvalid_any p
  rw [hv] at hvp
  obtain ⟨v1,v2,v3⟩:=vpk_parts hv
  have hck:=chkX_any p.s p.d 58 p.bs v1 v2 s1 s2 d1 d2 hB (by omega)
  unfold adC at hck
  rcases chkE_cases p hv with ⟨g1,hE⟩|⟨g1,g2,hE⟩|⟨g1,g2,g3,hE⟩|⟨g1,g2,g3,g4,hE⟩|⟨g1,g2,g3,g4,g5,hE⟩|⟨g1,g2,g3,g4,g5⟩
  · rw [decV_bad hE (by decide)]
    refine Wq (qW 0 3 rfl rfl rfl (qC rfl rfl rfl (qB rfl ty78 (qA rfl rfl (Nl (Wq (qW 7 10 rfl rfl rfl (qF rfl rfl ty74 rfl rfl (qL rfl rfl rfl rfl ty24 rfl (qA rfl rfl (Nl (Wq (Wb (Wq (qW 14 18 rfl rfl rfl (qG rfl rfl rfl ty74 rfl (Tl rfl) (Od rfl rfl (C0 (fr:=[]) rfl rfl (hvp) fok68 (.cons rfl (.pure (pkC_pure p)) .nil) rfl) (qO rfl rfl (qA rfl rfl (Nl (Wf rfl rfl (Wq (qW 29 39 rfl rfl rfl (qF rfl rfl ty74 rfl rfl (qF rfl rfl ty42 rfl rfl (qL rfl rfl rfl rfl ty4 rfl (qO rfl rfl (qM rfl rfl (Sd rfl rfl rfl ‹_› rfl (Sd rfl rfl rfl ‹_› rfl (Sd rfl rfl rfl ‹_› rfl (qT rfl rfl ‹_› rfl (qA rfl rfl (Nl (Wt rfl rfl (Wq (qW 43 46 rfl rfl rfl (Od rfl rfl (Bs rfl ty78 .nil) (qS rfl rfl rfl rfl rfl ty78 rfl rfl (Sl rfl) (qA rfl rfl (Nl ?_)))))))))))))))))))))))))))))))))))))))))
    refine W.ret ⟨.inl rfl,_,mt,(RVs.cons (RV.cellA rfl rfl ty78 rfl (Tk.lit rfl)) (RVs.cons (RV.tmp rfl) RVs.nil)),(by (repeat' (first|exact all_mt|refine all_up ?_ ?_))<;>rfl),?_⟩
    exact ⟨rfl,rfl⟩
  · rw [decV_bad hE (by decide)]
    refine Wq (qW 0 3 rfl rfl rfl (qC rfl rfl rfl (qB rfl ty78 (qA rfl rfl (Nl (Wq (qW 7 10 rfl rfl rfl (qF rfl rfl ty74 rfl rfl (qL rfl rfl rfl rfl ty24 rfl (qA rfl rfl (Nl (Wq (Wb (Wq (qW 14 18 rfl rfl rfl (qG rfl rfl rfl ty74 rfl (Tl rfl) (Od rfl rfl (C0 (fr:=[]) rfl rfl (hvp) fok68 (.cons rfl (.pure (pkC_pure p)) .nil) rfl) (qO rfl rfl (qA rfl rfl (Nl (Wf rfl rfl (Wq (qW 29 39 rfl rfl rfl (qF rfl rfl ty74 rfl rfl (qF rfl rfl ty42 rfl rfl (qL rfl rfl rfl rfl ty4 rfl (qO rfl rfl (qM rfl rfl (Gd rfl rfl rfl ‹_› rfl (Fa rfl rfl ty74 rfl (by decide)) (Gd rfl rfl rfl ‹_› rfl (Ld rfl rfl rfl rfl ty3 rfl) (Gd rfl rfl rfl ‹_› rfl (Ne0 rfl rfl rfl) (qP rfl rfl ‹_› rfl (qA rfl rfl (Nl (Wt rfl ‹_› (Wq (qW 43 46 rfl rfl rfl (Od rfl rfl (Bs rfl ty78 .nil) (qS rfl rfl rfl rfl rfl ty78 rfl rfl (Sl rfl) (qA rfl rfl (Nl ?_)))))))))))))))))))))))))))))))))))))))))
    refine W.ret ⟨.inl rfl,_,mt,(RVs.cons (RV.cellA rfl rfl ty78 rfl (Tk.lit rfl)) (RVs.cons (RV.tmp rfl) RVs.nil)),(by (repeat' (first|exact all_mt|refine all_up ?_ ?_))<;>rfl),?_⟩
    exact ⟨rfl,rfl⟩
  · rw [decV_bad hE (by decide)]
    refine Wq (qW 0 3 rfl rfl rfl (qC rfl rfl rfl (qB rfl ty78 (qA rfl rfl (Nl (Wq (qW 7 10 rfl rfl rfl (qF rfl rfl ty74 rfl rfl (qL rfl rfl rfl rfl ty24 rfl (qA rfl rfl (Nl (Wq (Wb (Wq (qW 14 18 rfl rfl rfl (qG rfl rfl rfl ty74 rfl (Tl rfl) (Od rfl rfl (C0 (fr:=[]) rfl rfl (hvp) fok68 (.cons rfl (.pure (pkC_pure p)) .nil) rfl) (qO rfl rfl (qA rfl rfl (Nl (Wf rfl rfl (Wq (qW 29 39 rfl rfl rfl (qF rfl rfl ty74 rfl rfl (qF rfl rfl ty42 rfl rfl (qL rfl rfl rfl rfl ty4 rfl (qO rfl rfl (qM rfl rfl (Gd rfl rfl rfl ‹_› rfl (Fa rfl rfl ty74 rfl (by decide)) (Gd rfl rfl rfl ‹_› rfl (Ld rfl rfl rfl rfl ty3 rfl) (Gd rfl rfl rfl ‹_› rfl (Ne0 rfl rfl rfl) (qP rfl rfl ‹_› rfl (qA rfl rfl (Nl (Wf rfl ‹_› (Wq (qW 50 54 rfl rfl rfl (qF rfl rfl ty74 rfl rfl (qL rfl rfl rfl rfl ty3 rfl (qN rfl rfl rfl (qA rfl rfl (Nl (Wt rfl ‹_› (Wq (qW 58 61 rfl rfl rfl (Od rfl rfl (Bs rfl ty78 .nil) (qS rfl rfl rfl rfl rfl ty78 rfl rfl (Sl rfl) (qA rfl rfl (Nl ?_)))))))))))))))))))))))))))))))))))))))))))))))))
    refine W.ret ⟨.inl rfl,_,mt,(RVs.cons (RV.cellA rfl rfl ty78 rfl (Tk.lit rfl)) (RVs.cons (RV.tmp rfl) RVs.nil)),(by (repeat' (first|exact all_mt|refine all_up ?_ ?_))<;>rfl),?_⟩
    exact ⟨rfl,rfl⟩
  · rw [decV_bad hE (by decide)]
    refine Wq (qW 0 3 rfl rfl rfl (qC rfl rfl rfl (qB rfl ty78 (qA rfl rfl (Nl (Wq (qW 7 10 rfl rfl rfl (qF rfl rfl ty74 rfl rfl (qL rfl rfl rfl rfl ty24 rfl (qA rfl rfl (Nl (Wq (Wb (Wq (qW 14 18 rfl rfl rfl (qG rfl rfl rfl ty74 rfl (Tl rfl) (Od rfl rfl (C0 (fr:=[]) rfl rfl (hvp) fok68 (.cons rfl (.pure (pkC_pure p)) .nil) rfl) (qO rfl rfl (qA rfl rfl (Nl (Wf rfl rfl (Wq (qW 29 39 rfl rfl rfl (qF rfl rfl ty74 rfl rfl (qF rfl rfl ty42 rfl rfl (qL rfl rfl rfl rfl ty4 rfl (qO rfl rfl (qM rfl rfl (Gd rfl rfl rfl ‹_› rfl (Fa rfl rfl ty74 rfl (by decide)) (Gd rfl rfl rfl ‹_› rfl (Ld rfl rfl rfl rfl ty3 rfl) (Gd rfl rfl rfl ‹_› rfl (Ne0 rfl rfl rfl) (qP rfl rfl ‹_› rfl (qA rfl rfl (Nl (Wf rfl ‹_› (Wq (qW 50 54 rfl rfl rfl (qF rfl rfl ty74 rfl rfl (qL rfl rfl rfl rfl ty3 rfl (qN rfl rfl rfl (qA rfl rfl (Nl (Wf rfl ‹_› (Wq (qW 65 69 rfl rfl rfl (qM rfl rfl (qH rfl rfl rfl ty24 (qK rfl rfl rfl (qA rfl rfl (Nl (Wt rfl ‹_› (Wq (qW 73 76 rfl rfl rfl (Od rfl rfl (Bs rfl ty78 .nil) (qS rfl rfl rfl rfl rfl ty78 rfl rfl (Sl rfl) (qA rfl rfl (Nl ?_)))))))))))))))))))))))))))))))))))))))))))))))))))))))))
    refine W.ret ⟨.inl rfl,_,mt,(RVs.cons (RV.cellA rfl rfl ty78 rfl (Tk.lit rfl)) (RVs.cons (RV.tmp rfl) RVs.nil)),(by (repeat' (first|exact all_mt|refine all_up ?_ ?_))<;>rfl),?_⟩
    exact ⟨rfl,rfl⟩
  · rw [decV_bad hE (by decide)]
    refine Wq (qW 0 3 rfl rfl rfl (qC rfl rfl rfl (qB rfl ty78 (qA rfl rfl (Nl (Wq (qW 7 10 rfl rfl rfl (qF rfl rfl ty74 rfl rfl (qL rfl rfl rfl rfl ty24 rfl (qA rfl rfl (Nl (Wq (Wb (Wq (qW 14 18 rfl rfl rfl (qG rfl rfl rfl ty74 rfl (Tl rfl) (Od rfl rfl (C0 (fr:=[]) rfl rfl (hvp) fok68 (.cons rfl (.pure (pkC_pure p)) .nil) rfl) (qO rfl rfl (qA rfl rfl (Nl (Wf rfl rfl (Wq (qW 29 39 rfl rfl rfl (qF rfl rfl ty74 rfl rfl (qF rfl rfl ty42 rfl rfl (qL rfl rfl rfl rfl ty4 rfl (qO rfl rfl (qM rfl rfl (Gd rfl rfl rfl ‹_› rfl (Fa rfl rfl ty74 rfl (by decide)) (Gd rfl rfl rfl ‹_› rfl (Ld rfl rfl rfl rfl ty3 rfl) (Gd rfl rfl rfl ‹_› rfl (Ne0 rfl rfl rfl) (qP rfl rfl ‹_› rfl (qA rfl rfl (Nl (Wf rfl ‹_› (Wq (qW 50 54 rfl rfl rfl (qF rfl rfl ty74 rfl rfl (qL rfl rfl rfl rfl ty3 rfl (qN rfl rfl rfl (qA rfl rfl (Nl (Wf rfl ‹_› (Wq (qW 65 69 rfl rfl rfl (qM rfl rfl (qH rfl rfl rfl ty24 (qK rfl rfl rfl (qA rfl rfl (Nl (Wf rfl ‹_› (Wq (qW 80 88 rfl rfl rfl (qF rfl rfl ty74 rfl rfl (qG rfl rfl rfl ty42 rfl (Tl rfl) (qF rfl rfl ty74 rfl rfl (qG rfl rfl rfl ty42 rfl (Tl rfl) (qM rfl rfl (Od rfl rfl (C0 (fr:=[]) rfl rfl (hck) fok69 (.cons rfl (.pure rfl) (.cons rfl (.pure rfl) (.cons rfl (.pure rfl) (.cons rfl (.pure rfl) .nil)))) rfl) (qN rfl rfl rfl (qA rfl rfl (Nl (Wt rfl ‹_› (Wq (qW 92 95 rfl rfl rfl (Od rfl rfl (Bs rfl ty78 .nil) (qS rfl rfl rfl rfl rfl ty78 rfl rfl (Sl rfl) (qA rfl rfl (Nl ?_)))))))))))))))))))))))))))))))))))))))))))))))))))))))))))))))))))))
    refine W.ret ⟨.inl rfl,_,mt,(RVs.cons (RV.cellA rfl rfl ty78 rfl (Tk.lit rfl)) (RVs.cons (RV.tmp rfl) RVs.nil)),(by (repeat' (first|exact all_mt|refine all_up ?_ ?_))<;>rfl),?_⟩
    exact ⟨rfl,rfl⟩
  · exfalso
    refine hk ⟨?_,g1,g2⟩
    unfold chkE at h0 ⊢
    rw [hv] at h0 ⊢
    have e2:p.p=58:=by simpa using g2
    rw [e2] at h0 ⊢
    simp only [Bool.not_true,Bool.false_eq_true,if_false,g1,g3,g4,g5,Bool.or_self,bne_self_eq_false] at h0 ⊢
    split at h0
    · rename_i h;rw [if_pos h]
    · exact absurd rfl h0
set_option maxHeartbeats 4000000 in
theorem decX_bad3 (p:Pk) (hB:IsB p.bs) (s1:U64 p.s.hi) (s2:U64 p.s.lo) (d1:U64 p.d.hi) (d2:U64 p.d.lo) (hv:vpk p=true) (hE:chkE p=5) (g1:(!p.s.v6)=false) (g2:(p.p != 58)=false):AFn Tryz.prog 31 0 [.agg (pkC p)] mt (decV p) mt:=by
  refine AFn.eq Tryz.func31 rfl rfl (Nat.le_of_ble_eq_true rfl) ?_
  have hvp:=rpvalid_any p
  rw [hv] at hvp
  obtain ⟨v1,v2,v3⟩:=vpk_parts hv
  have hck:=chkX_any p.s p.d 58 p.bs v1 v2 s1 s2 d1 d2 hB (by omega)
  unfold adC at hck
  have hc:(p.t != 255)=false∧decide ((p.bs.length:Int) < 4)=false∧(chkF p.s p.d 58 p.bs != 0)=false∧4≤p.bs.length∧(decide (gB p.bs 0 < 133)=true∨(decide (gB p.bs 0 < 133)=false∧decide (gB p.bs 0 > 137)=true)∨(decide (gB p.bs 0 < 133)=false∧decide (gB p.bs 0 > 137)=false∧(gB p.bs 1 != 0)=true)):=by
    rcases chkE_cases p hv with ⟨h1,_⟩|⟨_,h2,_⟩|⟨_,_,_,h⟩|⟨_,_,_,_,h⟩|⟨_,_,_,_,_,h⟩|⟨_,_,g3,g4,g5⟩
    · rw [g1] at h1;cases h1
    · rw [g2] at h2;cases h2
    · rw [hE] at h;cases h
    · rw [hE] at h;cases h
    · rw [hE] at h;cases h
    · refine ⟨g3,g4,g5,by have:=of_decide_eq_false g4;omega,?_⟩
      unfold chkE at hE
      have e2:p.p=58:=by simpa using g2
      rw [hv,e2] at hE
      simp only [Bool.not_true,Bool.false_eq_true,if_false,g1,g3,g4,g5,Bool.or_self,bne_self_eq_false] at hE
      by_cases c1:gB p.bs 0 < 133
      · exact .inl (decide_eq_true c1)
      · by_cases c2:gB p.bs 0 > 137
        · exact .inr (.inl ⟨decide_eq_false c1,decide_eq_true c2⟩)
        · refine .inr (.inr ⟨decide_eq_false c1,decide_eq_false c2,?_⟩)
          by_cases c3:gB p.bs 1=0
          · rw [if_neg (by simp [c3];omega)] at hE;cases hE
          · simpa using c3
  obtain ⟨g3,g4,g5,hl4,hk⟩:=hc
  rw [decV_bad hE (by decide)]
  have hat0:=by_at (l:=p.bs) (k:=0) (by omega)
  have hat1:=by_at (l:=p.bs) (k:=1) (by omega)
  rcases hk with k1|⟨k1,k2⟩|⟨k1,k2,k3⟩
  all_goals
    repeat (refine W.seq ?_)
    refine qW 0 3 rfl rfl rfl (qC rfl rfl rfl (qB rfl ty78 (qA rfl rfl (Nl ?_))))
    repeat (refine W.seq ?_)
    refine qW 7 10 rfl rfl rfl (qF rfl rfl ty74 rfl rfl (qL rfl rfl rfl rfl ty24 rfl (qA rfl rfl (Nl ?_))))
    repeat (refine W.seq ?_)
    refine Wb ?_
    repeat (refine W.seq ?_)
    refine qW 14 18 rfl rfl rfl (qG rfl rfl rfl ty74 rfl (Tl rfl) (Od rfl rfl (C0 (fr:=[]) rfl rfl (hvp) fok68 (.cons rfl (.pure (pkC_pure p)) .nil) rfl) (qO rfl rfl (qA rfl rfl (Nl (Wf rfl rfl ?_))))))
    repeat (refine W.seq ?_)
    refine qW 29 39 rfl rfl rfl (qF rfl rfl ty74 rfl rfl (qF rfl rfl ty42 rfl rfl (qL rfl rfl rfl rfl ty4 rfl (qO rfl rfl (qM rfl rfl (Gd rfl rfl rfl ‹_› rfl (Fa rfl rfl ty74 rfl (by decide)) (Gd rfl rfl rfl ‹_› rfl (Ld rfl rfl rfl rfl ty3 rfl) (Gd rfl rfl rfl ‹_› rfl (Ne0 rfl rfl rfl) (qP rfl rfl ‹_› rfl (qA rfl rfl (Nl (Wf rfl ‹_› ?_))))))))))))
    repeat (refine W.seq ?_)
    refine qW 50 54 rfl rfl rfl (qF rfl rfl ty74 rfl rfl (qL rfl rfl rfl rfl ty3 rfl (qN rfl rfl rfl (qA rfl rfl (Nl (Wf rfl ‹_› ?_))))))
    repeat (refine W.seq ?_)
    refine qW 65 69 rfl rfl rfl (qM rfl rfl (qH rfl rfl rfl ty24 (qK rfl rfl rfl (qA rfl rfl (Nl (Wf rfl ‹_› ?_))))))
    repeat (refine W.seq ?_)
    refine qW 80 88 rfl rfl rfl (qF rfl rfl ty74 rfl rfl (qG rfl rfl rfl ty42 rfl (Tl rfl) (qF rfl rfl ty74 rfl rfl (qG rfl rfl rfl ty42 rfl (Tl rfl) (qM rfl rfl (Od rfl rfl (C0 (fr:=[]) rfl rfl (hck) fok69 (.cons rfl (.pure rfl) (.cons rfl (.pure rfl) (.cons rfl (.pure rfl) (.cons rfl (.pure rfl) .nil)))) rfl) (qN rfl rfl rfl (qA rfl rfl (Nl (Wf rfl ‹_› ?_))))))))))
    repeat (refine W.seq ?_)
    refine qW 99 116 rfl rfl rfl (qM rfl rfl (qJ rfl rfl rfl rfl rfl ty24 ty5 (by first|omega|decide|assumption|(simp;done)|(simp;omega)) (Od rfl rfl (Li rfl rfl hat0 ty5 rfl) (qK rfl rfl rfl (qM rfl rfl ?_)))))
    first
        | (refine RW.sd rfl rfl rfl ?_ rfl ?_;(· (first|rfl|assumption)))
        | (refine RW.gd rfl rfl rfl ?_ rfl (LO.move rfl rfl) ?_;(· (first|rfl|assumption)))
    first
        | (refine RW.sd rfl rfl rfl ?_ rfl ?_;(· (first|rfl|assumption)))
        | (refine RW.gd rfl rfl rfl ?_ rfl (LO.indexAddr_isl rfl rfl rfl rfl rfl ty24 ty5 ?_) ?_;(· (first|rfl|assumption));(· (first|omega|decide|assumption|fail|(simp;done)|(simp;omega))))
    first
        | (refine RW.sd rfl rfl rfl ?_ rfl ?_;(· (first|rfl|assumption)))
        | (refine RW.gd rfl rfl rfl ?_ rfl (LO.load_imm rfl rfl hat0 ty5 rfl) ?_;(· (first|rfl|assumption)))
    first
        | (refine RW.sd rfl rfl rfl ?_ rfl ?_;(· (first|rfl|assumption)))
        | (refine RW.gd rfl rfl rfl ?_ rfl (LO.gtr rfl rfl rfl) ?_;(· (first|rfl|assumption)))
    first
        | (refine RW.opd rfl rfl (LO.pick_t rfl rfl ?_ rfl) ?_;(· (first|rfl|assumption)))
        | (refine RW.opd rfl rfl (LO.pick_f rfl rfl ?_ rfl) ?_;(· (first|rfl|assumption)))
    refine qM rfl rfl ?_
    first
        | (refine RW.sd rfl rfl rfl ?_ rfl ?_;(· (first|rfl|assumption)))
        | (refine RW.gd rfl rfl rfl ?_ rfl (LO.move rfl rfl) ?_;(· (first|rfl|assumption)))
    first
        | (refine RW.sd rfl rfl rfl ?_ rfl ?_;(· (first|rfl|assumption)))
        | (refine RW.gd rfl rfl rfl ?_ rfl (LO.indexAddr_isl rfl rfl rfl rfl rfl ty24 ty5 ?_) ?_;(· (first|rfl|assumption));(· (first|omega|decide|assumption|fail|(simp;done)|(simp;omega))))
    first
        | (refine RW.sd rfl rfl rfl ?_ rfl ?_;(· (first|rfl|assumption)))
        | (refine RW.gd rfl rfl rfl ?_ rfl (LO.load_imm rfl rfl hat1 ty5 rfl) ?_;(· (first|rfl|assumption)))
    first
        | (refine RW.sd rfl rfl rfl ?_ rfl ?_;(· (first|rfl|assumption)))
        | (refine RW.gd rfl rfl rfl ?_ rfl (LO.neq rfl rfl rfl) ?_;(· (first|rfl|assumption)))
    first
        | (refine RW.opd rfl rfl (LO.pick_t rfl rfl ?_ rfl) ?_;(· (first|rfl|assumption)))
        | (refine RW.opd rfl rfl (LO.pick_f rfl rfl ?_ rfl) ?_;(· (first|rfl|assumption)))
    refine qA rfl rfl (Nl (Wt rfl (by first|rfl|assumption) ?_))
    repeat (refine W.seq ?_)
    refine qW 120 123 rfl rfl rfl (Od rfl rfl (Bs rfl ty78 .nil) (qS rfl rfl rfl rfl rfl ty78 rfl rfl (Sl rfl) (qA rfl rfl (Nl ?_))))
    refine W.ret ⟨.inl rfl,_,mt,(RVs.cons (RV.cellA rfl rfl ty78 rfl (Tk.lit rfl)) (RVs.cons (RV.tmp rfl) RVs.nil)),(by (repeat' (first|exact all_mt|refine all_up ?_ ?_))<;>rfl),?_⟩
    exact ⟨rfl,rfl⟩
end Go.Proofs.YtcidmiacfjdepaaGreatDoor
namespace Go.Proofs.YtcidmiacfjdepaaGreatDoor
open Go.RowKit
theorem chkE_ok {p:Pk} (hE:chkE p=0):vpk p=true∧(!p.s.v6)=false∧(p.p != 58)=false∧(p.t != 255)=false∧decide ((p.bs.length:Int) < 4)=false∧(chkF p.s p.d 58 p.bs != 0)=false∧4≤p.bs.length∧decide (gB p.bs 0 < 133)=false∧decide (gB p.bs 0 > 137)=false∧(gB p.bs 1 != 0)=false:=by
  have hv:vpk p=true:=by
    cases h:vpk p with
    | true=>rfl
    | false=>unfold chkE at hE;rw [h] at hE;simp at hE
  refine ⟨hv,?_⟩
  rcases chkE_cases p hv with ⟨_,h⟩|⟨_,_,h⟩|⟨_,_,_,h⟩|⟨_,_,_,_,h⟩|⟨_,_,_,_,_,h⟩|⟨g1,g2,g3,g4,g5⟩
  · rw [hE] at h;cases h
  · rw [hE] at h;cases h
  · rw [hE] at h;cases h
  · rw [hE] at h;cases h
  · rw [hE] at h;cases h
  · refine ⟨g1,g2,g3,g4,g5,by have:=of_decide_eq_false g4;omega,?_⟩
    unfold chkE at hE
    have e2:p.p=58:=by simpa using g2
    rw [hv,e2] at hE
    simp only [Bool.not_true,Bool.false_eq_true,if_false,g1,g3,g4,g5,Bool.or_self,bne_self_eq_false] at hE
    split at hE
    · cases hE
    · rename_i h
      simp only [Bool.or_eq_true,decide_eq_true_eq,not_or] at h
      exact ⟨decide_eq_false h.1.1,decide_eq_false (by omega),by simpa using h.2⟩
set_option maxHeartbeats 4000000 in
theorem decX_short (p:Pk) (hB:IsB p.bs) (s1:U64 p.s.hi) (s2:U64 p.s.lo) (d1:U64 p.d.hi) (d2:U64 p.d.lo) (hE:chkE p=0) (hsz:p.bs.length < 4 + fixN (gB p.bs 0)):AFn Tryz.prog 31 0 [.agg (pkC p)] mt (decV p) mt:=by
  refine AFn.eq Tryz.func31 rfl rfl (Nat.le_of_ble_eq_true rfl) ?_
  obtain ⟨hv,g1,g2,g3,g4,g5,hl4,k1,k2,k3⟩:=chkE_ok hE
  have hvp:=rpvalid_any p
  rw [hv] at hvp
  obtain ⟨v1,v2,v3⟩:=vpk_parts hv
  have hck:=chkX_any p.s p.d 58 p.bs v1 v2 s1 s2 d1 d2 hB (by omega)
  unfold adC at hck
  have hdv:decV p=.tup [.agg (nbC zNb),.base (.int .i64 4)]:=by
    unfold decV decR
    rw [if_neg (by rw [hE];decide)]
    unfold rdB
    rw [if_pos (by rw [List.length_drop];omega)]
  rw [hdv]
  have hat0:=by_at (l:=p.bs) (k:=0) (by omega)
  have hat1:=by_at (l:=p.bs) (k:=1) (by omega)
  have b0:=hB.at 0
  have hfn:fixN (gB p.bs 0)≤36:=by unfold fixN;split<;>(try split)<;>(try split)<;>omega
  have hfx:=fixedX_any (gB p.bs 0)
  have g6:decide ((p.bs.length:Int) < 4 + (fixN (gB p.bs 0):Int))=true:=decide_eq_true (by omega)
  refine Wq (qW 0 3 rfl rfl rfl (qC rfl rfl rfl (qB rfl ty78 (qA rfl rfl (Nl (Wq (qW 7 10 rfl rfl rfl (qF rfl rfl ty74 rfl rfl (qL rfl rfl rfl rfl ty24 rfl (qA rfl rfl (Nl (Wq (Wb (Wq (qW 14 18 rfl rfl rfl (qG rfl rfl rfl ty74 rfl (Tl rfl) (Od rfl rfl (C0 (fr:=[]) rfl rfl (hvp) fok68 (.cons rfl (.pure (pkC_pure p)) .nil) rfl) (qO rfl rfl (qA rfl rfl (Nl (Wf rfl rfl (Wq (qW 29 39 rfl rfl rfl (qF rfl rfl ty74 rfl rfl (qF rfl rfl ty42 rfl rfl (qL rfl rfl rfl rfl ty4 rfl (qO rfl rfl (qM rfl rfl (Gd rfl rfl rfl ‹_› rfl (Fa rfl rfl ty74 rfl (by decide)) (Gd rfl rfl rfl ‹_› rfl (Ld rfl rfl rfl rfl ty3 rfl) (Gd rfl rfl rfl ‹_› rfl (Ne0 rfl rfl rfl) (qP rfl rfl ‹_› rfl (qA rfl rfl (Nl (Wf rfl ‹_› (Wq (qW 50 54 rfl rfl rfl (qF rfl rfl ty74 rfl rfl (qL rfl rfl rfl rfl ty3 rfl (qN rfl rfl rfl (qA rfl rfl (Nl (Wf rfl ‹_› (Wq (qW 65 69 rfl rfl rfl (qM rfl rfl (qH rfl rfl rfl ty24 (qK rfl rfl rfl (qA rfl rfl (Nl (Wf rfl ‹_› (Wq (qW 80 88 rfl rfl rfl (qF rfl rfl ty74 rfl rfl (qG rfl rfl rfl ty42 rfl (Tl rfl) (qF rfl rfl ty74 rfl rfl (qG rfl rfl rfl ty42 rfl (Tl rfl) (qM rfl rfl (Od rfl rfl (C0 (fr:=[]) rfl rfl (hck) fok69 (.cons rfl (.pure rfl) (.cons rfl (.pure rfl) (.cons rfl (.pure rfl) (.cons rfl (.pure rfl) .nil)))) rfl) (qN rfl rfl rfl (qA rfl rfl (Nl (Wf rfl ‹_› (Wq (qW 99 116 rfl rfl rfl (qM rfl rfl (qJ rfl rfl rfl rfl rfl ty24 ty5 (by first|omega|decide|assumption|(simp;done)|(simp;omega)) (Od rfl rfl (Li rfl rfl hat0 ty5 rfl) (qK rfl rfl rfl (qM rfl rfl (Gd rfl rfl rfl ‹_› rfl (Mv rfl rfl) (Gd rfl rfl rfl ‹_› rfl (Ii rfl rfl rfl rfl rfl ty24 ty5 (by first|omega|decide|assumption|(simp;done)|(simp;omega))) (Gd rfl rfl rfl ‹_› rfl (Li rfl rfl hat0 ty5 rfl) (Gd rfl rfl rfl ‹_› rfl (Gt0 rfl rfl rfl) (qP rfl rfl ‹_› rfl (qM rfl rfl (Gd rfl rfl rfl ‹_› rfl (Mv rfl rfl) (Gd rfl rfl rfl ‹_› rfl (Ii rfl rfl rfl rfl rfl ty24 ty5 (by first|omega|decide|assumption|(simp;done)|(simp;omega))) (Gd rfl rfl rfl ‹_› rfl (Li rfl rfl hat1 ty5 rfl) (Gd rfl rfl rfl ‹_› rfl (Ne0 rfl rfl rfl) (qP rfl rfl ‹_› rfl (qA rfl rfl (Nl (Wf rfl ‹_› (Wk (Wq (qW 127 134 rfl rfl rfl (qM rfl rfl (qJ rfl rfl rfl rfl rfl ty24 ty5 (by first|omega|decide|assumption|(simp;done)|(simp;omega)) (Od rfl rfl (Li rfl rfl hat0 ty5 rfl) (Od rfl rfl (Ci rfl rfl ty5 ty3 (by (first|exact IntWalk.i64_in _ (by omega)|assumption))) (Od rfl rfl (Bs rfl ty78 (.cons rfl rfl rfl rfl (Sl rfl) .nil)) (qB rfl ty78 (qS rfl rfl rfl rfl rfl ty78 rfl rfl (Sl rfl) (Nl (Wq (Wq (qW 138 145 rfl rfl rfl (qM rfl rfl (qH rfl rfl rfl ty24 (qF rfl rfl ty78 rfl rfl (qL rfl rfl rfl rfl ty3 rfl (Od rfl rfl (C0 (fr:=[]) rfl rfl (hfx) fok70 (.cons rfl (.pure rfl) .nil) rfl) (qZ rfl rfl rfl (by (first|exact IntWalk.i64_in _ (by omega)|assumption)) (qK rfl rfl rfl (Nl (Wt rfl ‹_› (Wq (qW 149 152 rfl rfl rfl (Od rfl rfl (Bs rfl ty78 .nil) (qS rfl rfl rfl rfl rfl ty78 rfl rfl (Sl rfl) (qA rfl rfl (Nl ?_)))))))))))))))))))))))))))))))))))))))))))))))))))))))))))))))))))))))))))))))))))))))))))))))))))))))))))))))))
  refine W.ret ⟨.inl rfl,_,mt,(RVs.cons (RV.cellA rfl rfl ty78 rfl (Tk.lit rfl)) (RVs.cons (RV.tmp rfl) RVs.nil)),(by (repeat' (first|exact all_mt|refine all_up ?_ ?_))<;>rfl),?_⟩
  exact ⟨rfl,rfl⟩
end Go.Proofs.YtcidmiacfjdepaaGreatDoor
