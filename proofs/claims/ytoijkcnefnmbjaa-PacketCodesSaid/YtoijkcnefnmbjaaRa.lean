/-
  Both decoders read the same, if the second one reads what the first one reads.
-/
import Derived.Test.YtoijkcnefnmbjaaQy
namespace Go.Proofs.Ytoijkcnefnmbjaa
open Go.RowKit
theorem decR_len (p : Pk) : (decR p).1.ln.length = 6 := by
  have hz : zNb.ln.length = 6 := rfl
  unfold decR
  split
  · exact hz
  · unfold rdB
    split
    · exact hz
    · split
      · exact hz
      · split
        · exact hz
        · rename_i r hr
          split
          · exact hz
          · exact optF_len _ _ _ _ _ (show zMac.length = 6 from rfl) r hr
set_option maxHeartbeats 1000000 in
theorem same_of (p : Pk) (hB : IsB p.bs) (s1 : U64 p.s.hi) (s2 : U64 p.s.lo) (d1 : U64 p.d.hi) (d2 : U64 p.d.lo) (hx : AFn Try.prog 57 0 [.agg (pkC p)] mt (decV p) mt) : AFn Try.prog 30 0 [.agg (pkC p)] mt (.base (.bool true)) mt := by
  refine AFn.eq Try.func30 rfl rfl (Nat.le_of_ble_eq_true rfl) ?_
  have hd := dec_any p hB s1 s2 d1 d2
  have hlen := decR_len p
  unfold decV at hd hx
  obtain ⟨R, hR⟩ : ∃ R, (decR p).1 = R := ⟨_, rfl⟩
  obtain ⟨ec, hec⟩ : ∃ ec, (decR p).2 = ec := ⟨_, rfl⟩
  rw [hR, hec] at hd hx
  rw [hR] at hlen
  have hnl : (nbC R).length = 12 := by simp [nbC, adC, bytesC_len, hlen]
  have htn : Tk (nbC R) 0 12 (nbC R) := by
    have := Tk.all (nbC R)
    rwa [hnl] at this
  have hself := eqN_self R
  have hee : (ec == ec) = true := by simp
  have hpp := pkC_pure p
  repeat (refine W.seq ?_)
  refine W.region 0 2 (by decide) rfl rfl ?_
  refine RW.opd rfl rfl (LO.box rfl rfl rfl) ?_
  refine RW.opd rfl rfl (LO.assign rfl rfl) ?_
  refine RW.nil ?_
  repeat (refine W.seq ?_)
  refine W.region 6 14 (by decide) rfl rfl ?_
  refine RW.opd rfl rfl (LO.load_agg rfl rfl rfl ty27 rfl (Tk.lit rfl)) ?_
  refine RW.opd rfl rfl (LO.call0 (fr := []) rfl rfl (hd) fok32 (.cons rfl (.pure hpp) .nil) (nbt_pure R ec)) ?_
  refine RW.opd rfl rfl (LO.move rfl rfl) ?_
  refine RW.opd rfl rfl (LO.extract rfl rfl rfl) ?_
  refine RW.opd rfl rfl (LO.extract rfl rfl rfl) ?_
  refine RW.opd rfl rfl (LO.alloc rfl ty52) ?_
  refine RW.opn rfl rfl (LO.store rfl rfl rfl rfl rfl ty52 hnl (by decide) (Sp.of_all hnl)) ?_
  refine RW.opd rfl rfl (LO.assign rfl rfl) ?_
  refine RW.nil ?_
  repeat (refine W.seq ?_)
  refine W.region 18 26 (by decide) rfl rfl ?_
  refine RW.opd rfl rfl (LO.load_agg rfl rfl rfl ty27 rfl (Tk.lit rfl)) ?_
  refine RW.opd rfl rfl (LO.call0 (fr := []) rfl rfl (hx) fok57 (.cons rfl (.pure hpp) .nil) (nbt_pure R ec)) ?_
  refine RW.opd rfl rfl (LO.move rfl rfl) ?_
  refine RW.opd rfl rfl (LO.extract rfl rfl rfl) ?_
  refine RW.opd rfl rfl (LO.extract rfl rfl rfl) ?_
  refine RW.opd rfl rfl (LO.alloc rfl ty52) ?_
  refine RW.opn rfl rfl (LO.store rfl rfl rfl rfl rfl ty52 hnl (by decide) (Sp.of_all hnl)) ?_
  refine RW.opd rfl rfl (LO.assign rfl rfl) ?_
  refine RW.nil ?_
  repeat (refine W.seq ?_)
  refine W.region 30 39 (by decide) rfl rfl ?_
  refine RW.opd rfl rfl (LO.load_agg rfl rfl rfl ty52 rfl (by first | exact htn | exact pk_tk p)) ?_
  refine RW.opd rfl rfl (LO.load_agg rfl rfl rfl ty52 rfl (by first | exact htn | exact pk_tk p)) ?_
  refine RW.opd rfl rfl (LO.eql_nb R R hlen hlen rfl rfl rfl) ?_
  refine RW.opd rfl rfl (LO.move rfl rfl) ?_
  refine RW.gd rfl rfl rfl ?_ rfl (LO.move rfl rfl) ?_; (· (first | rfl | assumption))
  refine RW.gd rfl rfl rfl ?_ rfl (LO.move rfl rfl) ?_; (· (first | rfl | assumption))
  refine RW.gd rfl rfl rfl ?_ rfl (LO.eql rfl rfl rfl) ?_; (· (first | rfl | assumption))
  refine RW.opd rfl rfl (LO.pick_t rfl rfl ?_ rfl) ?_; (· (first | rfl | assumption))
  refine RW.opd rfl rfl (LO.assign rfl rfl) ?_
  refine RW.nil ?_
  repeat (refine W.seq ?_)
  refine W.ret ⟨.inl rfl, _, mt, (RVs.cons (RV.tmp rfl) RVs.nil), (by (repeat' (first | exact all_mt | refine all_up ?_ ?_)) <;> rfl), ?_⟩
  exact ⟨by rw [hee]; rfl, rfl⟩
end Go.Proofs.Ytoijkcnefnmbjaa
