/-
  ResolveBelongs: its law.
-/
import Derived.Test.YtcidmiacfjdepaaDoorVc
import Derived.Test.YtcidmiacfjdepaaDoorMab
namespace Go.Proofs.YtcidmiacfjdepaaDoor
open Go.RowKit

theorem take_mem {α : Type} {l : List α} {i : Nat} (h : i < l.length) (a : α) : a ∈ l.take (i + 1) ↔ a ∈ l.take i ∨ l[i] = a := by
  rw [List.take_succ_eq_append_getElem h, List.mem_append, List.mem_singleton]
  constructor
  · rintro (h | h)
    · exact .inl h
    · exact .inr h.symm
  · rintro (h | h)
    · exact .inl h
    · exact .inr h.symm
theorem any_take {α : Type} {l : List α} {i : Nat} (h : i < l.length) (f : α → Bool) : (l.take (i + 1)).any f = ((l.take i).any f || f l[i]) := by
  rw [List.take_succ_eq_append_getElem h, List.any_append]; simp
set_option maxHeartbeats 8000000 in
theorem belongs_law (l : List Int) (hl : l.length ≤ 9223372036854775807) : AFn Tryd.prog 5 0 [.isl (l.map fun z => .base (.int .i64 z)) l.length] mt (.base (.bool true)) mt := by
  refine AFn.eq Tryd.func5 rfl rfl (Nat.le_of_ble_eq_true rfl) ?_
  have hawk := awake_any
  obtain ⟨_, _, hset, d, g, bs, j, f, hj, ⟨hfine, hperm, hmo, hfx⟩, rfl, rfl⟩ := setting_any l hl
  have htab := hfine.tables g 2 3 hperm hmo
  have hlen := hfine.len
  have hrok := hfine.rok g 2 3
  have hreach := fun h => hfine.reach (g := g) hperm (f := f) h
  have hdel := deliver_any ((allP d).map (ruleOf g 2 3)) bs (allP d)[j].id f htab hfx.ok
  have htl := tgtF_len htab hfx.ok
  have hask := asks_any f hfx.ok
  have hrl : ((allP d).map (ruleOf g 2 3)).length ≤ 1000 := by rw [List.length_map]; omega
  have hsz := same_zero
  unfold dlvF at hdel
  have p6 := hfx.ok.d6
  have q6 := hfx.ok.s6
  have hdB := hfx.dB
  have hfo := hfx.ok
  have hrule := fun p hp => ruleM_any ((allP d).map (ruleOf g 2 3)) p.id (ruleOf g 2 3 p) (rule_first hp fun q hq e => hfine.ids hp hq e) hrl hrok
  have hpok : ∀ p, p ∈ allP d → PrtOk p := fun p hp => by
    obtain ⟨i, hi, rfl⟩ := List.getElem_of_mem hp
    exact (hfine.good i hi).ok (by omega) (by omega)
  generalize tgtF ((allP d).map (ruleOf g 2 3)) bs f = tg at *
  generalize asksF f = ak at *
  obtain ⟨port, mac, ok⟩ := tg
  obtain ⟨aa, asks⟩ := ak
  obtain ⟨fd, fs, fv, ft, fx⟩ := f
  dsimp only at p6 q6 hdB htl hreach hdel
  obtain ⟨p0, p1, p2, p3, p4, p5, rfl⟩ := six_of p6
  obtain ⟨q0, q1, q2, q3, q4, q5, rfl⟩ := six_of q6
  obtain ⟨m0, m1, m2, m3, m4, m5, rfl⟩ := six_of htl
  have hgr := grpM_any [p0, p1, p2, p3, p4, p5] rfl hdB
  rw [grp_eq (hdB p0 (by simp))] at hgr
  generalize (allP d)[j] = P at *
  clear hfx htab hperm
  generalize (allP d).map (ruleOf g 2 3) = rs at *
  unfold ruleOf at hset hrule
  refine Wq (Wr 0 1 (by decide) rfl rfl (Od rfl rfl (As rfl rfl) (Nl (Wq (Wr 5 18 (by decide) rfl rfl (Od rfl rfl (Mv rfl rfl) (Od rfl rfl (C0 (fr := []) rfl rfl (hset) fok16 (.cons rfl (.pure rfl) .nil) rfl) (Od rfl rfl (Mv rfl rfl) (Od rfl rfl (Ex rfl rfl rfl) (Od rfl rfl (Ex rfl rfl rfl) (Od rfl rfl (Ex rfl rfl rfl) (Od rfl rfl (Ex rfl rfl rfl) (Od rfl rfl (Al rfl ty43) (Od rfl rfl (Al rfl ty55) (Od rfl rfl (As rfl rfl) (Od rfl rfl (As rfl rfl) (On rfl rfl (Sr rfl rfl rfl rfl rfl ty43 rfl (by decide) (Sp.lit rfl)) (On rfl rfl (Sr rfl rfl rfl rfl rfl ty55 rfl (by decide) (Sp.lit rfl)) (Nl ?_)))))))))))))))))))
  by_cases hbad : ok = false ∨ port = P.id
  · rw [if_pos hbad] at hdel
    have hdel : AFn Tryd.prog 14 0 [.isl (rulesC rs) rs.length, .isl (bdsC bs) bs.length, .base (.int .i64 P.id), .agg (frC ⟨[p0, p1, p2, p3, p4, p5], [q0, q1, q2, q3, q4, q5], fv, ft, fx⟩)] mt (.tup [.base (.int .i64 0), .agg (frC zFr), .base (.int .i64 13)]) mt := hdel
    refine Wq (Wr 22 36 (by decide) rfl rfl (Od rfl rfl (Mv rfl rfl) (Od rfl rfl (Mv rfl rfl) ?_)))
    first
        | (refine RW.opd rfl rfl (LO.fieldAddr rfl rfl ty43 rfl (by decide)) ?_)
        | (refine RW.opd rfl rfl (LO.fieldAddr_imm rfl rfl ty43 rfl (by decide)) ?_)
    first
        | (refine RW.opd rfl rfl (LO.load rfl rfl rfl rfl ty3 rfl) ?_)
        | (refine RW.opd rfl rfl (LO.load_imm rfl rfl rfl ty3 rfl) ?_)
    first
        | (refine RW.opd rfl rfl (LO.load_agg rfl rfl rfl ty55 rfl (Tk.lit rfl)) ?_)
        | (refine RW.opd rfl rfl (LO.load_imm_agg rfl rfl ty55 rfl (Tk.lit rfl)) ?_)
    refine Od rfl rfl (C0 (fr := []) rfl rfl (hdel) fok14 (.cons rfl (.pure rfl) (.cons rfl (.pure rfl) (.cons rfl (.pure rfl) (.cons rfl (.pure rfl) .nil)))) rfl) (Od rfl rfl (Mv rfl rfl) (Od rfl rfl (Ex rfl rfl rfl) (Od rfl rfl (Ex rfl rfl rfl) (Od rfl rfl (Ex rfl rfl rfl) (Od rfl rfl (Al rfl ty55) (Od rfl rfl (As rfl rfl) (On rfl rfl (Sr rfl rfl rfl rfl rfl ty55 rfl (by decide) (Sp.lit rfl)) (Od rfl rfl (As rfl rfl) (Nl (Wq (Wq (Wr 40 42 (by decide) rfl rfl (Od rfl rfl (Mv rfl rfl) (Od rfl rfl (Ne0 rfl rfl rfl) (Nl (Wt rfl (by first|rfl|assumption) (Wq (Wr 46 61 (by decide) rfl rfl (Od rfl rfl (Mv rfl rfl) (Od rfl rfl (Eq0 rfl rfl rfl) (Od rfl rfl (Mv rfl rfl) ?_)))))))))))))))))))))
    first
        | (refine RW.sd rfl rfl rfl ?_ rfl ?_; (· (first | rfl | assumption)))
        | (refine RW.gd rfl rfl rfl ?_ rfl (LO.move rfl rfl) ?_; (· (first | rfl | assumption)))
    first
        | (refine RW.sd rfl rfl rfl ?_ rfl ?_; (· (first | rfl | assumption)))
        | (refine RW.gd rfl rfl rfl ?_ rfl (LO.eql rfl rfl rfl) ?_; (· (first | rfl | assumption)))
    first
        | (refine RW.opd rfl rfl (LO.pick_t rfl rfl ?_ rfl) ?_; (· (first | rfl | assumption)))
        | (refine RW.opd rfl rfl (LO.pick_f rfl rfl ?_ rfl) ?_; (· (first | rfl | assumption)))
    refine Od rfl rfl (Mv rfl rfl) ?_
    first
        | (refine RW.sd rfl rfl rfl ?_ rfl ?_; (· (first | rfl | assumption)))
        | (refine RW.gd rfl rfl rfl ?_ rfl (LO.load_agg rfl rfl rfl ty55 rfl (Tk.lit rfl)) ?_; (· (first | rfl | assumption)))
        | (refine RW.gd rfl rfl rfl ?_ rfl (LO.load_imm_agg rfl rfl ty55 rfl (Tk.lit rfl)) ?_; (· (first | rfl | assumption)))
    first
        | (refine RW.sd rfl rfl rfl ?_ rfl ?_; (· (first | rfl | assumption)))
        | (refine RW.gd rfl rfl rfl ?_ rfl (LO.build_st rfl ty55 .nil) ?_; (· (first | rfl | assumption)))
    first
        | (refine RW.sd rfl rfl rfl ?_ rfl ?_; (· (first | rfl | assumption)))
        | (refine RW.gd rfl rfl rfl ?_ rfl (LO.call0 (fr := []) rfl rfl (hsz) fok17 (.cons rfl (.pure rfl) (.cons rfl (.pure rfl) .nil)) rfl) ?_; (· (first | rfl | assumption)))
    first
        | (refine RW.opd rfl rfl (LO.pick_t rfl rfl ?_ rfl) ?_; (· (first | rfl | assumption)))
        | (refine RW.opd rfl rfl (LO.pick_f rfl rfl ?_ rfl) ?_; (· (first | rfl | assumption)))
    refine Od rfl rfl (Mv rfl rfl) ?_
    first
        | (refine RW.sd rfl rfl rfl ?_ rfl ?_; (· (first | rfl | assumption)))
        | (refine RW.gd rfl rfl rfl ?_ rfl (LO.call0 (fr := []) rfl rfl (hawk) fok11 .nil rfl) ?_; (· (first | rfl | assumption)))
    first
        | (refine RW.opd rfl rfl (LO.pick_t rfl rfl ?_ rfl) ?_; (· (first | rfl | assumption)))
        | (refine RW.opd rfl rfl (LO.pick_f rfl rfl ?_ rfl) ?_; (· (first | rfl | assumption)))
    refine Od rfl rfl (As rfl rfl) (Nl (W.ret ⟨.inl rfl, _, mt, RVs.cons (RV.tmp rfl) (RVs.nil), all_mt, ?_⟩))
    exact ⟨rfl, rfl⟩
  · rw [if_neg hbad] at hdel
    have hok : ok = true := by
      cases ok
      · exact absurd (.inl rfl) hbad
      · rfl
    have hne : ¬ port = P.id := fun e => hbad (.inr e)
    obtain ⟨p, hp, e1, e2, e3⟩ := hreach hok
    have hru := hrule p hp
    have hpk := hpok p hp
    have hmem : [m0, m1, m2, m3, m4, m5] ∈ p.macs := e2
    clear hreach hrule hbad hpok
    have hdel : AFn Tryd.prog 14 0 [.isl (rulesC rs) rs.length, .isl (bdsC bs) bs.length, .base (.int .i64 P.id), .agg (frC ⟨[p0, p1, p2, p3, p4, p5], [q0, q1, q2, q3, q4, q5], fv, ft, fx⟩)] mt (.tup [.base (.int .i64 port), .agg (frC ⟨[m0, m1, m2, m3, m4, m5], [q0, q1, q2, q3, q4, q5], fv, ft, fx⟩), .base (.int .i64 0)]) mt := hdel
    rw [← e1] at hru
    have k1 : (port == P.id) = false := by simpa using hne
    have hsame := same_refl ⟨[m0, m1, m2, m3, m4, m5], [q0, q1, q2, q3, q4, q5], fv, ft, fx⟩ ⟨rfl, rfl, hfo.bB, hfo.bl⟩
    have hmn := hpk.nm
    have hm6 : ∀ m, m ∈ p.macs → m.length = 6 := fun m hm => (hpk.macs m hm).1
    have hL4 := ad1_len p.v4
    have hL6 := ad1_len p.v6
    generalize p.macs = ms at *
    generalize ad1 p.v4 = L4 at *
    generalize ad1 p.v6 = L6 at *
    refine Wq (Wr 22 36 (by decide) rfl rfl (Od rfl rfl (Mv rfl rfl) (Od rfl rfl (Mv rfl rfl) ?_)))
    first
        | (refine RW.opd rfl rfl (LO.fieldAddr rfl rfl ty43 rfl (by decide)) ?_)
        | (refine RW.opd rfl rfl (LO.fieldAddr_imm rfl rfl ty43 rfl (by decide)) ?_)
    first
        | (refine RW.opd rfl rfl (LO.load rfl rfl rfl rfl ty3 rfl) ?_)
        | (refine RW.opd rfl rfl (LO.load_imm rfl rfl rfl ty3 rfl) ?_)
    first
        | (refine RW.opd rfl rfl (LO.load_agg rfl rfl rfl ty55 rfl (Tk.lit rfl)) ?_)
        | (refine RW.opd rfl rfl (LO.load_imm_agg rfl rfl ty55 rfl (Tk.lit rfl)) ?_)
    refine Od rfl rfl (C0 (fr := []) rfl rfl (hdel) fok14 (.cons rfl (.pure rfl) (.cons rfl (.pure rfl) (.cons rfl (.pure rfl) (.cons rfl (.pure rfl) .nil)))) rfl) (Od rfl rfl (Mv rfl rfl) (Od rfl rfl (Ex rfl rfl rfl) (Od rfl rfl (Ex rfl rfl rfl) (Od rfl rfl (Ex rfl rfl rfl) (Od rfl rfl (Al rfl ty55) (Od rfl rfl (As rfl rfl) (On rfl rfl (Sr rfl rfl rfl rfl rfl ty55 rfl (by decide) (Sp.lit rfl)) (Od rfl rfl (As rfl rfl) (Nl (Wq (Wq (Wr 40 42 (by decide) rfl rfl (Od rfl rfl (Mv rfl rfl) (Od rfl rfl (Ne0 rfl rfl rfl) (Nl (Wf rfl (rfl) (Wk (Wq (Wr 65 74 (by decide) rfl rfl (Od rfl rfl (Mv rfl rfl) (Od rfl rfl (Mv rfl rfl) (Od rfl rfl (C0 (fr := []) rfl rfl (hru) fok18 (.cons rfl (.pure rfl) (.cons rfl (.pure rfl) .nil)) rfl) (Od rfl rfl (Mv rfl rfl) (Od rfl rfl (Ex rfl rfl rfl) (Od rfl rfl (Ex rfl rfl rfl) (Od rfl rfl (Al rfl ty43) (On rfl rfl (Sr rfl rfl rfl rfl rfl ty43 rfl (by decide) (Sp.lit rfl)) (Od rfl rfl (As rfl rfl) (Nl (Wq (Wq (Wr 78 86 (by decide) rfl rfl (Od rfl rfl (Mv rfl rfl) (Od rfl rfl (Nt rfl rfl) (Od rfl rfl (Mv rfl rfl) ?_)))))))))))))))))))))))))))))))))))
    first
        | (refine RW.sd rfl rfl rfl ?_ rfl ?_; (· (first | rfl | assumption)))
        | (refine RW.gd rfl rfl rfl ?_ rfl (LO.move rfl rfl) ?_; (· (first | rfl | assumption)))
    first
        | (refine RW.sd rfl rfl rfl ?_ rfl ?_; (· (first | rfl | assumption)))
        | (refine RW.gd rfl rfl rfl ?_ rfl (LO.fieldAddr rfl rfl ty43 rfl (by decide)) ?_; (· (first | rfl | assumption)))
        | (refine RW.gd rfl rfl rfl ?_ rfl (LO.fieldAddr_imm rfl rfl ty43 rfl (by decide)) ?_; (· (first | rfl | assumption)))
    first
        | (refine RW.sd rfl rfl rfl ?_ rfl ?_; (· (first | rfl | assumption)))
        | (refine RW.gd rfl rfl rfl ?_ rfl (LO.load rfl rfl rfl rfl ty3 rfl) ?_; (· (first | rfl | assumption)))
        | (refine RW.gd rfl rfl rfl ?_ rfl (LO.load_imm rfl rfl rfl ty3 rfl) ?_; (· (first | rfl | assumption)))
    first
        | (refine RW.sd rfl rfl rfl ?_ rfl ?_; (· (first | rfl | assumption)))
        | (refine RW.gd rfl rfl rfl ?_ rfl (LO.eql rfl rfl rfl) ?_; (· (first | rfl | assumption)))
    first
        | (refine RW.opd rfl rfl (LO.pick_t rfl rfl ?_ rfl) ?_; (· (first | rfl | assumption)))
        | (refine RW.opd rfl rfl (LO.pick_f rfl rfl ?_ rfl) ?_; (· (first | rfl | assumption)))
    refine Nl (Wf rfl (by first|rfl|assumption) (Wk (Wq (Wr 95 96 (by decide) rfl rfl (Od rfl rfl (As rfl rfl) (Nl (Wq (Wq (Wr 100 104 (by decide) rfl rfl ?_)))))))))
    first
        | (refine RW.opd rfl rfl (LO.fieldAddr rfl rfl ty43 rfl (by decide)) ?_)
        | (refine RW.opd rfl rfl (LO.fieldAddr_imm rfl rfl ty43 rfl (by decide)) ?_)
    first
        | (refine RW.opd rfl rfl (LO.load rfl rfl rfl rfl ty40 rfl) ?_)
        | (refine RW.opd rfl rfl (LO.load_imm rfl rfl rfl ty40 rfl) ?_)
    first
        | (refine RW.opd rfl rfl (LO.len rfl rfl ty40) ?_)
        | (refine RW.opd rfl rfl (LO.len_isl rfl rfl rfl ty40) ?_)
        | (refine RW.opd rfl rfl (LO.len_nil rfl rfl ty40) ?_)
    refine Od rfl rfl (Mv rfl rfl) (Nl (Wb (W.loop_keep (α := Nat × Bool) (fun x => ms.length - x.1) 3 (fun x => [(6, .own 0 0), (8, .own 1 0), (10, .own 2 0), (12, .base (.bool x.2)), (71, .base (.int .i64 (x.1 : Int)))]) (fun x => up (up (up mt 0 (some (frC ⟨[p0, p1, p2, p3, p4, p5], [q0, q1, q2, q3, q4, q5], fv, ft, fx⟩))) 1 (some (frC ⟨[m0, m1, m2, m3, m4, m5], [q0, q1, q2, q3, q4, q5], fv, ft, fx⟩))) 2 (some ([.base (.int .i64 port), .base (.int .i64 (g port)), .base (.int .i64 p.sw), .isl (macsC ms) ms.length, .isl (adsC L4) L4.length, .isl (adsC L6) L6.length, .base (.int .i64 2), .base (.int .i64 3)]))) (fun x => x.1 ≤ ms.length ∧ x.2 = decide ([m0, m1, m2, m3, m4, m5] ∈ ms.take x.1)) (0, false) [(0, 13), (1, 32), (2, 71)] (.cons (t := 69) rfl (by first | exact .inl rfl | exact .inr ⟨rfl, fun _ h => by cases h⟩ | (exact .inl (by assumption)) ) (.cons (t := 70) rfl (by first | exact .inl rfl | exact .inr ⟨rfl, fun _ h => by cases h⟩ | (exact .inl (by assumption)) ) .nil)) (show 0 ≤ ms.length ∧ false = decide ([m0, m1, m2, m3, m4, m5] ∈ ms.take 0) from ⟨Nat.zero_le _, by simp⟩) (by decide) ?_ ?_ ?_)))
    · (repeat' (first | exact LookR.nil | refine LookR.cons ?_ ?_)) <;> first | exact .inl ⟨rfl, rfl⟩ | exact .inr ⟨rfl, fun _ h => by cases h⟩ | exact .inl ⟨rfl, by first | rfl | assumption ⟩
    · (repeat' (first | exact all_mt | refine all_up ?_ ?_)) <;> first | exact ⟨rfl, _, rfl, .inr ⟨rfl, rfl⟩⟩ | exact ⟨rfl, _, rfl, .inl rfl⟩ | exact ⟨rfl, _, rfl, .inr ⟨rfl, by first | rfl | assumption ⟩⟩
    rintro ⟨i, fl⟩ hIA ihA
    try (dsimp only at hIA)
    try dsimp only [baseT, List.cons_append, List.nil_append]
    obtain ⟨hi, hfl⟩ := hIA
    by_cases hc : i < ms.length
    · have g1 : decide ((i : Int) < (ms.length : Int)) = true := decide_eq_true (by omega)
      have hx6 := hm6 _ (List.getElem_mem hc)
      have hxt := macs_tk hm6 hc
      have htm := take_mem hc [m0, m1, m2, m3, m4, m5]
      generalize ms[i] = x at *
      obtain ⟨x0, x1, x2, x3, x4, x5, rfl⟩ := six_of hx6
      refine Wq (Wr 108 109 (by decide) rfl rfl (Od rfl rfl (Ls rfl rfl rfl) (Nl (Wq (Wt rfl (by first|rfl|assumption) (Wk (Wq (Wb (Wq (Wr 113 117 (by decide) rfl rfl ?_))))))))))
      first
          | (refine RW.opd rfl rfl (LO.indexAddr rfl rfl rfl rfl ty40 ty50 ?_) ?_; (· (first | omega | decide | assumption | fail | (simp; done) | (simp; omega))))
          | (refine RW.opd rfl rfl (LO.indexAddr_isl rfl rfl rfl rfl rfl ty40 ty50 ?_) ?_; (· (first | omega | decide | assumption | fail | (simp; done) | (simp; omega))))
      first
          | (refine RW.opd rfl rfl (LO.load_agg rfl rfl rfl ty50 rfl (Tk.lit rfl)) ?_)
          | (refine RW.opd rfl rfl (LO.load_agg rfl rfl rfl ty50 rfl hxt) ?_)
          | (refine RW.opd rfl rfl (LO.load_imm_agg rfl rfl ty50 rfl (Tk.lit rfl)) ?_)
          | (refine RW.opd rfl rfl (LO.load_imm_agg rfl rfl ty50 rfl hxt) ?_)
      refine Od rfl rfl (Al rfl ty50) (On rfl rfl (Sr rfl rfl rfl rfl rfl ty50 rfl (by decide) (Sp.lit rfl)) (Nl ?_))
      cases fl
      ·
        have hn := of_decide_eq_false hfl.symm
        refine Wr 121 129 (by decide) rfl rfl (Od rfl rfl (Mv rfl rfl) (Od rfl rfl (Mv rfl rfl) ?_))
        first
            | (refine RW.sd rfl rfl rfl ?_ rfl ?_; (· (first | rfl | assumption)))
            | (refine RW.gd rfl rfl rfl ?_ rfl (LO.load_agg rfl rfl rfl ty50 rfl (Tk.lit rfl)) ?_; (· (first | rfl | assumption)))
            | (refine RW.gd rfl rfl rfl ?_ rfl (LO.load_imm_agg rfl rfl ty50 rfl (Tk.lit rfl)) ?_; (· (first | rfl | assumption)))
        first
            | (refine RW.sd rfl rfl rfl ?_ rfl ?_; (· (first | rfl | assumption)))
            | (refine RW.gd rfl rfl rfl ?_ rfl (LO.fieldAddr rfl rfl ty55 rfl (by decide)) ?_; (· (first | rfl | assumption)))
            | (refine RW.gd rfl rfl rfl ?_ rfl (LO.fieldAddr_imm rfl rfl ty55 rfl (by decide)) ?_; (· (first | rfl | assumption)))
        first
            | (refine RW.sd rfl rfl rfl ?_ rfl ?_; (· (first | rfl | assumption)))
            | (refine RW.gd rfl rfl rfl ?_ rfl (LO.load_agg rfl rfl rfl ty50 rfl (Tk.lit rfl)) ?_; (· (first | rfl | assumption)))
            | (refine RW.gd rfl rfl rfl ?_ rfl (LO.load_imm_agg rfl rfl ty50 rfl (Tk.lit rfl)) ?_; (· (first | rfl | assumption)))
        first
            | (refine RW.sd rfl rfl rfl ?_ rfl ?_; (· (first | rfl | assumption)))
            | (refine RW.gd rfl rfl rfl ?_ rfl (LO.eql_mac [x0, x1, x2, x3, x4, x5] [m0, m1, m2, m3, m4, m5] rfl rfl rfl rfl rfl) ?_; (· (first | rfl | assumption)))
        first
            | (refine RW.opd rfl rfl (LO.pick_t rfl rfl ?_ rfl) ?_; (· (first | rfl | assumption)))
            | (refine RW.opd rfl rfl (LO.pick_f rfl rfl ?_ rfl) ?_; (· (first | rfl | assumption)))
        refine Od rfl rfl (As rfl rfl) (Nl (Wr 133 135 (by decide) rfl rfl ?_))
        first
            | (refine RW.opd rfl rfl (LO.add_in rfl rfl rfl ?_) ?_; (· (first | exact IntWalk.i64_in _ (by omega) | assumption)))
            | (refine RW.opd rfl rfl (LO.add rfl rfl rfl) ?_)
        refine Od rfl rfl (Mv rfl rfl) (Nl (WL.renameL [(0, 0), (1, 1), (2, 2)] 3 (by decide) ?_ ?_ (ihA ((i + 1), (decide ([x0, x1, x2, x3, x4, x5] = [m0, m1, m2, m3, m4, m5]))) (show ms.length - (i + 1) < ms.length - i from by omega) (show (i + 1) ≤ ms.length ∧ (decide ([x0, x1, x2, x3, x4, x5] = [m0, m1, m2, m3, m4, m5])) = decide ([m0, m1, m2, m3, m4, m5] ∈ ms.take (i + 1)) from ⟨by omega, decide_eq_decide.2 (htm.trans (or_iff_right hn)).symm⟩))))
        · (repeat' (first | exact LookR.nil | refine LookR.cons ?_ ?_)) <;> first | exact .inl ⟨rfl, rfl⟩ | exact .inr ⟨rfl, fun _ h => by cases h⟩ | exact .inl ⟨rfl, by first | rfl | assumption ⟩
        · (repeat' (first | exact all_mt | refine all_up ?_ ?_)) <;> first | exact ⟨rfl, _, rfl, .inr ⟨rfl, rfl⟩⟩ | exact ⟨rfl, _, rfl, .inl rfl⟩ | exact ⟨rfl, _, rfl, .inr ⟨rfl, by first | rfl | assumption ⟩⟩
      ·
        have hn := of_decide_eq_true hfl.symm
        refine Wr 121 129 (by decide) rfl rfl (Od rfl rfl (Mv rfl rfl) (Od rfl rfl (Mv rfl rfl) ?_))
        first
            | (refine RW.sd rfl rfl rfl ?_ rfl ?_; (· (first | rfl | assumption)))
            | (refine RW.gd rfl rfl rfl ?_ rfl (LO.load_agg rfl rfl rfl ty50 rfl (Tk.lit rfl)) ?_; (· (first | rfl | assumption)))
            | (refine RW.gd rfl rfl rfl ?_ rfl (LO.load_imm_agg rfl rfl ty50 rfl (Tk.lit rfl)) ?_; (· (first | rfl | assumption)))
        first
            | (refine RW.sd rfl rfl rfl ?_ rfl ?_; (· (first | rfl | assumption)))
            | (refine RW.gd rfl rfl rfl ?_ rfl (LO.fieldAddr rfl rfl ty55 rfl (by decide)) ?_; (· (first | rfl | assumption)))
            | (refine RW.gd rfl rfl rfl ?_ rfl (LO.fieldAddr_imm rfl rfl ty55 rfl (by decide)) ?_; (· (first | rfl | assumption)))
        first
            | (refine RW.sd rfl rfl rfl ?_ rfl ?_; (· (first | rfl | assumption)))
            | (refine RW.gd rfl rfl rfl ?_ rfl (LO.load_agg rfl rfl rfl ty50 rfl (Tk.lit rfl)) ?_; (· (first | rfl | assumption)))
            | (refine RW.gd rfl rfl rfl ?_ rfl (LO.load_imm_agg rfl rfl ty50 rfl (Tk.lit rfl)) ?_; (· (first | rfl | assumption)))
        first
            | (refine RW.sd rfl rfl rfl ?_ rfl ?_; (· (first | rfl | assumption)))
            | (refine RW.gd rfl rfl rfl ?_ rfl (LO.eql_mac [x0, x1, x2, x3, x4, x5] [m0, m1, m2, m3, m4, m5] rfl rfl rfl rfl rfl) ?_; (· (first | rfl | assumption)))
        first
            | (refine RW.opd rfl rfl (LO.pick_t rfl rfl ?_ rfl) ?_; (· (first | rfl | assumption)))
            | (refine RW.opd rfl rfl (LO.pick_f rfl rfl ?_ rfl) ?_; (· (first | rfl | assumption)))
        refine Od rfl rfl (As rfl rfl) (Nl (Wr 133 135 (by decide) rfl rfl ?_))
        first
            | (refine RW.opd rfl rfl (LO.add_in rfl rfl rfl ?_) ?_; (· (first | exact IntWalk.i64_in _ (by omega) | assumption)))
            | (refine RW.opd rfl rfl (LO.add rfl rfl rfl) ?_)
        refine Od rfl rfl (Mv rfl rfl) (Nl (WL.renameL [(0, 0), (1, 1), (2, 2)] 3 (by decide) ?_ ?_ (ihA ((i + 1), true) (show ms.length - (i + 1) < ms.length - i from by omega) (show (i + 1) ≤ ms.length ∧ true = decide ([m0, m1, m2, m3, m4, m5] ∈ ms.take (i + 1)) from ⟨by omega, (decide_eq_true (htm.2 (.inl hn))).symm⟩))))
        · (repeat' (first | exact LookR.nil | refine LookR.cons ?_ ?_)) <;> first | exact .inl ⟨rfl, rfl⟩ | exact .inr ⟨rfl, fun _ h => by cases h⟩ | exact .inl ⟨rfl, by first | rfl | assumption ⟩
        · (repeat' (first | exact all_mt | refine all_up ?_ ?_)) <;> first | exact ⟨rfl, _, rfl, .inr ⟨rfl, rfl⟩⟩ | exact ⟨rfl, _, rfl, .inl rfl⟩ | exact ⟨rfl, _, rfl, .inr ⟨rfl, by first | rfl | assumption ⟩⟩
    · have g1 : decide ((i : Int) < (ms.length : Int)) = false := decide_eq_false (by omega)
      have hft : fl = true := by rw [hfl, List.take_of_length_le (by omega)]; exact decide_eq_true hmem
      subst hft
      refine Wq (Wr 108 109 (by decide) rfl rfl (Od rfl rfl (Ls rfl rfl rfl) (Nl (Wq (Wf rfl (by first|rfl|assumption) (Wx (Wq (Wr 139 142 (by decide) rfl rfl ?_))))))))
      first
          | (refine RW.opd rfl rfl (LO.load_agg rfl rfl rfl ty55 rfl (Tk.lit rfl)) ?_)
          | (refine RW.opd rfl rfl (LO.load_imm_agg rfl rfl ty55 rfl (Tk.lit rfl)) ?_)
      refine Od rfl rfl (Al rfl ty55) (On rfl rfl (Sr rfl rfl rfl rfl rfl ty55 rfl (by decide) (Sp.lit rfl)) (Nl (Wq (Wr 146 150 (by decide) rfl rfl ?_))))
      first
          | (refine RW.opd rfl rfl (LO.fieldAddr rfl rfl ty55 rfl (by decide)) ?_)
          | (refine RW.opd rfl rfl (LO.fieldAddr_imm rfl rfl ty55 rfl (by decide)) ?_)
      first
          | (refine RW.opd rfl rfl (LO.load_agg rfl rfl rfl ty50 rfl (Tk.lit rfl)) ?_)
          | (refine RW.opd rfl rfl (LO.load_imm_agg rfl rfl ty50 rfl (Tk.lit rfl)) ?_)
      first
          | (refine RW.opd rfl rfl (LO.fieldAddr rfl rfl ty55 rfl (by decide)) ?_)
          | (refine RW.opd rfl rfl (LO.fieldAddr_imm rfl rfl ty55 rfl (by decide)) ?_)
      refine On rfl rfl (Sr rfl rfl rfl rfl rfl ty50 rfl (by decide) (Sp.lit rfl)) (Nl (Wq (Wq (Wr 154 162 (by decide) rfl rfl (Od rfl rfl (Mv rfl rfl) (Od rfl rfl (Nt rfl rfl) (Od rfl rfl (Mv rfl rfl) ?_)))))))
      first
          | (refine RW.sd rfl rfl rfl ?_ rfl ?_; (· (first | rfl | assumption)))
          | (refine RW.gd rfl rfl rfl ?_ rfl (LO.load_agg rfl rfl rfl ty55 rfl (Tk.lit rfl)) ?_; (· (first | rfl | assumption)))
          | (refine RW.gd rfl rfl rfl ?_ rfl (LO.load_imm_agg rfl rfl ty55 rfl (Tk.lit rfl)) ?_; (· (first | rfl | assumption)))
      first
          | (refine RW.sd rfl rfl rfl ?_ rfl ?_; (· (first | rfl | assumption)))
          | (refine RW.gd rfl rfl rfl ?_ rfl (LO.load_agg rfl rfl rfl ty55 rfl (Tk.lit rfl)) ?_; (· (first | rfl | assumption)))
          | (refine RW.gd rfl rfl rfl ?_ rfl (LO.load_imm_agg rfl rfl ty55 rfl (Tk.lit rfl)) ?_; (· (first | rfl | assumption)))
      first
          | (refine RW.sd rfl rfl rfl ?_ rfl ?_; (· (first | rfl | assumption)))
          | (refine RW.gd rfl rfl rfl ?_ rfl (LO.call0 (fr := []) rfl rfl (hsame) fok17 (.cons rfl (.pure rfl) (.cons rfl (.pure rfl) .nil)) rfl) ?_; (· (first | rfl | assumption)))
      first
          | (refine RW.sd rfl rfl rfl ?_ rfl ?_; (· (first | rfl | assumption)))
          | (refine RW.gd rfl rfl rfl ?_ rfl (LO.not rfl rfl) ?_; (· (first | rfl | assumption)))
      first
          | (refine RW.opd rfl rfl (LO.pick_t rfl rfl ?_ rfl) ?_; (· (first | rfl | assumption)))
          | (refine RW.opd rfl rfl (LO.pick_f rfl rfl ?_ rfl) ?_; (· (first | rfl | assumption)))
      refine Nl (Wf rfl (by first|rfl|assumption) (Wk ?_))
      obtain ⟨gr, hgre⟩ : ∃ gr, grpE [p0, p1, p2, p3, p4, p5] = gr := ⟨_, rfl⟩

      rw [hgre] at hgr e3
      cases gr
      ·
        have e4 : ([m0, m1, m2, m3, m4, m5] : List Int) = [p0, p1, p2, p3, p4, p5] := by
          rcases e3 with ⟨_, e⟩ | ⟨e, _⟩
          · exact e
          · cases e
        have k2 : decide (([m0, m1, m2, m3, m4, m5] : List Int) = [p0, p1, p2, p3, p4, p5]) = true := decide_eq_true e4
        refine Wq (Wq (Wr 171 175 (by decide) rfl rfl ?_))
        first
            | (refine RW.opd rfl rfl (LO.fieldAddr rfl rfl ty55 rfl (by decide)) ?_)
            | (refine RW.opd rfl rfl (LO.fieldAddr_imm rfl rfl ty55 rfl (by decide)) ?_)
        first
            | (refine RW.opd rfl rfl (LO.load_agg rfl rfl rfl ty50 rfl (Tk.lit rfl)) ?_)
            | (refine RW.opd rfl rfl (LO.load_imm_agg rfl rfl ty50 rfl (Tk.lit rfl)) ?_)
        refine Od rfl rfl (C0 (fr := []) rfl rfl (hgr) fok19 (.cons rfl (.pure rfl) .nil) rfl) (Od rfl rfl (Nt rfl rfl) (Nl (Wt rfl (by first|rfl|assumption) (Wq (Wr 179 188 (by decide) rfl rfl ?_)))))
        first
            | (refine RW.opd rfl rfl (LO.fieldAddr rfl rfl ty55 rfl (by decide)) ?_)
            | (refine RW.opd rfl rfl (LO.fieldAddr_imm rfl rfl ty55 rfl (by decide)) ?_)
        first
            | (refine RW.opd rfl rfl (LO.load_agg rfl rfl rfl ty50 rfl (Tk.lit rfl)) ?_)
            | (refine RW.opd rfl rfl (LO.load_imm_agg rfl rfl ty50 rfl (Tk.lit rfl)) ?_)
        first
            | (refine RW.opd rfl rfl (LO.fieldAddr rfl rfl ty55 rfl (by decide)) ?_)
            | (refine RW.opd rfl rfl (LO.fieldAddr_imm rfl rfl ty55 rfl (by decide)) ?_)
        first
            | (refine RW.opd rfl rfl (LO.load_agg rfl rfl rfl ty50 rfl (Tk.lit rfl)) ?_)
            | (refine RW.opd rfl rfl (LO.load_imm_agg rfl rfl ty50 rfl (Tk.lit rfl)) ?_)
        refine Od rfl rfl (LO.eql_mac [m0, m1, m2, m3, m4, m5] [p0, p1, p2, p3, p4, p5] rfl rfl rfl rfl rfl) (Od rfl rfl (Mv rfl rfl) ?_)
        first
            | (refine RW.sd rfl rfl rfl ?_ rfl ?_; (· (first | rfl | assumption)))
            | (refine RW.gd rfl rfl rfl ?_ rfl (LO.call0 (fr := []) rfl rfl (hawk) fok11 .nil rfl) ?_; (· (first | rfl | assumption)))
        first
            | (refine RW.opd rfl rfl (LO.pick_t rfl rfl ?_ rfl) ?_; (· (first | rfl | assumption)))
            | (refine RW.opd rfl rfl (LO.pick_f rfl rfl ?_ rfl) ?_; (· (first | rfl | assumption)))
        refine Od rfl rfl (As rfl rfl) (Nl (W.ret ⟨.inl rfl, _, mt, RVs.cons (RV.tmp rfl) (RVs.nil), all_mt, ?_⟩))
        exact ⟨rfl, rfl⟩
      ·
        obtain ⟨e4, e5⟩ : asks = true ∧ aa ∈ L4 ++ L6 := by
          rcases e3 with ⟨e, _⟩ | ⟨_, e⟩
          · cases e
          · exact e
        subst e4
        unfold asksV at hask
        have hz4 : (adsC L4).length = L4.length * 3 := adsC_len L4
        have hz6 : (adsC L6).length = L6.length * 3 := adsC_len L6
        obtain ⟨N, hN⟩ : ∃ N, L4 ++ L6 = N := ⟨_, rfl⟩
        have hNl : L4.length + L6.length = N.length := by rw [← hN]; simp
        have hNc : adsC L4 ++ adsC L6 = adsC N := by rw [← hN]; simp [adsC]
        rw [hN] at e5
        refine Wq (Wq (Wr 171 175 (by decide) rfl rfl ?_))
        first
            | (refine RW.opd rfl rfl (LO.fieldAddr rfl rfl ty55 rfl (by decide)) ?_)
            | (refine RW.opd rfl rfl (LO.fieldAddr_imm rfl rfl ty55 rfl (by decide)) ?_)
        first
            | (refine RW.opd rfl rfl (LO.load_agg rfl rfl rfl ty50 rfl (Tk.lit rfl)) ?_)
            | (refine RW.opd rfl rfl (LO.load_imm_agg rfl rfl ty50 rfl (Tk.lit rfl)) ?_)
        refine Od rfl rfl (C0 (fr := []) rfl rfl (hgr) fok19 (.cons rfl (.pure rfl) .nil) rfl) (Od rfl rfl (Nt rfl rfl) (Nl (Wf rfl (by first|rfl|assumption) (Wk (Wq (Wr 192 200 (by decide) rfl rfl ?_))))))
        first
            | (refine RW.opd rfl rfl (LO.load_agg rfl rfl rfl ty55 rfl (Tk.lit rfl)) ?_)
            | (refine RW.opd rfl rfl (LO.load_imm_agg rfl rfl ty55 rfl (Tk.lit rfl)) ?_)
        refine Od rfl rfl (C0 (fr := []) rfl rfl (hask) fok20 (.cons rfl (.pure rfl) .nil) rfl) (Od rfl rfl (Mv rfl rfl) (Od rfl rfl (Ex rfl rfl rfl) (Od rfl rfl (Ex rfl rfl rfl) (Od rfl rfl (Al rfl ty25) (On rfl rfl (Sr rfl rfl rfl rfl rfl ty25 rfl (by decide) (Sp.lit rfl)) (Od rfl rfl (As rfl rfl) (Nl (Wq (Wr 204 205 (by decide) rfl rfl (Od rfl rfl (As rfl rfl) (Nl (Wq (Wq (Wd 209 217 (by decide) rfl mixed rfl ?_))))))))))))))
        first
            | (refine RW.opd rfl rfl (LO.fieldAddr rfl rfl ty43 rfl (by decide)) ?_)
            | (refine RW.opd rfl rfl (LO.fieldAddr_imm rfl rfl ty43 rfl (by decide)) ?_)
        first
            | (refine RW.opd rfl rfl (LO.load rfl rfl rfl rfl ty41 rfl) ?_)
            | (refine RW.opd rfl rfl (LO.load_imm rfl rfl rfl ty41 rfl) ?_)
        refine Od rfl rfl (LO.append_nil rfl rfl (SrcAV.isl rfl rfl hz4) ty41 ty41 ty25 (by decide) (by omega) (by omega) (by decide)) ?_
        first
            | (refine RW.opd rfl rfl (LO.fieldAddr rfl rfl ty43 rfl (by decide)) ?_)
            | (refine RW.opd rfl rfl (LO.fieldAddr_imm rfl rfl ty43 rfl (by decide)) ?_)
        first
            | (refine RW.opd rfl rfl (LO.load rfl rfl rfl rfl ty41 rfl) ?_)
            | (refine RW.opd rfl rfl (LO.load_imm rfl rfl rfl ty41 rfl) ?_)
        refine Od rfl rfl (LO.append rfl rfl (SrcAV.isl rfl rfl hz6) rfl (ads_all rfl) ty41 ty41 ty25 (by decide) (by omega) (by omega) (by decide)) ?_
        first
            | (refine RW.opd rfl rfl (LO.len rfl rfl ty41) ?_)
            | (refine RW.opd rfl rfl (LO.len_isl rfl rfl rfl ty41) ?_)
            | (refine RW.opd rfl rfl (LO.len_nil rfl rfl ty41) ?_)
        refine Od rfl rfl (Mv rfl rfl) (Nl ⟨by kernel_rfl, ?_⟩)
        rw [hNc, hNl]
        refine W.frz1 (t := 117) rfl rfl (ads_all rfl) (adsC_pure _) (Wb (W.loop_keep (α := Nat × Bool) (fun x => N.length - x.1) 1 (fun x => [(16, .own 0 0), (18, .base (.bool x.2)), (119, .base (.int .i64 (x.1 : Int)))]) (fun x => up mt 0 (some (adC aa))) (fun x => x.1 ≤ N.length ∧ x.2 = (N.take x.1).any (fun x => eqA x aa)) (0, false) [(0, 197)] (.cons (t := 17) rfl (by first | exact .inl rfl | exact .inr ⟨rfl, fun _ h => by cases h⟩ | (exact .inl (by assumption)) ) (.cons (t := 117) rfl (by first | exact .inl rfl | exact .inr ⟨rfl, fun _ h => by cases h⟩ | (exact .inl (by assumption)) ) (.cons (t := 118) rfl (by first | exact .inl rfl | exact .inr ⟨rfl, fun _ h => by cases h⟩ | (exact .inl (by assumption)) ) .nil))) (show 0 ≤ N.length ∧ false = (N.take 0).any (fun x => eqA x aa) from ⟨Nat.zero_le _, by simp⟩) (by decide) ?_ ?_ ?_))
        · (repeat' (first | exact LookR.nil | refine LookR.cons ?_ ?_)) <;> first | exact .inl ⟨rfl, rfl⟩ | exact .inr ⟨rfl, fun _ h => by cases h⟩ | exact .inl ⟨rfl, by first | rfl | assumption ⟩
        · (repeat' (first | exact all_mt | refine all_up ?_ ?_)) <;> first | exact ⟨rfl, _, rfl, .inr ⟨rfl, rfl⟩⟩ | exact ⟨rfl, _, rfl, .inl rfl⟩ | exact ⟨rfl, _, rfl, .inr ⟨rfl, by first | rfl | assumption ⟩⟩
        rintro ⟨i, fl⟩ hIB ihB
        try (dsimp only at hIB)
        try dsimp only [baseT, List.cons_append, List.nil_append]
        obtain ⟨hi, hfl⟩ := hIB
        by_cases hc : i < N.length
        · have g1 : decide ((i : Int) < (N.length : Int)) = true := decide_eq_true (by omega)
          have hxt := ads_tk hc
          have htm := any_take hc (fun x => eqA x aa)
          generalize N[i] = x at *
          obtain ⟨x6, xh, xl⟩ := x
          refine Wq (Wr 221 222 (by decide) rfl rfl (Od rfl rfl (Ls rfl rfl rfl) (Nl (Wq (Wt rfl (by first|rfl|assumption) (Wk (Wq (Wb (Wq (Wr 226 230 (by decide) rfl rfl ?_))))))))))
          first
              | (refine RW.opd rfl rfl (LO.indexAddr rfl rfl rfl rfl ty41 ty25 ?_) ?_; (· (first | omega | decide | assumption | fail | (simp; done) | (simp; omega))))
              | (refine RW.opd rfl rfl (LO.indexAddr_isl rfl rfl rfl rfl rfl ty41 ty25 ?_) ?_; (· (first | omega | decide | assumption | fail | (simp; done) | (simp; omega))))
          first
              | (refine RW.opd rfl rfl (LO.load_agg rfl rfl rfl ty25 rfl (Tk.lit rfl)) ?_)
              | (refine RW.opd rfl rfl (LO.load_agg rfl rfl rfl ty25 rfl hxt) ?_)
              | (refine RW.opd rfl rfl (LO.load_imm_agg rfl rfl ty25 rfl (Tk.lit rfl)) ?_)
              | (refine RW.opd rfl rfl (LO.load_imm_agg rfl rfl ty25 rfl hxt) ?_)
          refine Od rfl rfl (Al rfl ty25) (On rfl rfl (Sr rfl rfl rfl rfl rfl ty25 rfl (by decide) (Sp.lit rfl)) (Nl ?_))
          rw [← hfl] at htm
          cases fl
          ·
            refine Wr 234 241 (by decide) rfl rfl (Od rfl rfl (Mv rfl rfl) (Od rfl rfl (Mv rfl rfl) ?_))
            first
                | (refine RW.sd rfl rfl rfl ?_ rfl ?_; (· (first | rfl | assumption)))
                | (refine RW.gd rfl rfl rfl ?_ rfl (LO.load_agg rfl rfl rfl ty25 rfl (Tk.lit rfl)) ?_; (· (first | rfl | assumption)))
                | (refine RW.gd rfl rfl rfl ?_ rfl (LO.load_imm_agg rfl rfl ty25 rfl (Tk.lit rfl)) ?_; (· (first | rfl | assumption)))
            first
                | (refine RW.sd rfl rfl rfl ?_ rfl ?_; (· (first | rfl | assumption)))
                | (refine RW.gd rfl rfl rfl ?_ rfl (LO.load_agg rfl rfl rfl ty25 rfl (Tk.lit rfl)) ?_; (· (first | rfl | assumption)))
                | (refine RW.gd rfl rfl rfl ?_ rfl (LO.load_imm_agg rfl rfl ty25 rfl (Tk.lit rfl)) ?_; (· (first | rfl | assumption)))
            first
                | (refine RW.sd rfl rfl rfl ?_ rfl ?_; (· (first | rfl | assumption)))
                | (refine RW.gd rfl rfl rfl ?_ rfl (LO.eql_ad ⟨x6, xh, xl⟩ aa rfl rfl rfl) ?_; (· (first | rfl | assumption)))
            first
                | (refine RW.opd rfl rfl (LO.pick_t rfl rfl ?_ rfl) ?_; (· (first | rfl | assumption)))
                | (refine RW.opd rfl rfl (LO.pick_f rfl rfl ?_ rfl) ?_; (· (first | rfl | assumption)))
            refine Od rfl rfl (As rfl rfl) (Nl (Wr 245 247 (by decide) rfl rfl ?_))
            first
                | (refine RW.opd rfl rfl (LO.add_in rfl rfl rfl ?_) ?_; (· (first | exact IntWalk.i64_in _ (by omega) | assumption)))
                | (refine RW.opd rfl rfl (LO.add rfl rfl rfl) ?_)
            refine Od rfl rfl (Mv rfl rfl) (Nl (WL.renameL [(0, 0)] 1 (by decide) ?_ ?_ (ihB ((i + 1), (eqA ⟨x6, xh, xl⟩ aa)) (show N.length - (i + 1) < N.length - i from by omega) (show (i + 1) ≤ N.length ∧ (eqA ⟨x6, xh, xl⟩ aa) = (N.take (i + 1)).any (fun x => eqA x aa) from ⟨by omega, htm.symm⟩))))
            · (repeat' (first | exact LookR.nil | refine LookR.cons ?_ ?_)) <;> first | exact .inl ⟨rfl, rfl⟩ | exact .inr ⟨rfl, fun _ h => by cases h⟩ | exact .inl ⟨rfl, by first | rfl | assumption ⟩
            · (repeat' (first | exact all_mt | refine all_up ?_ ?_)) <;> first | exact ⟨rfl, _, rfl, .inr ⟨rfl, rfl⟩⟩ | exact ⟨rfl, _, rfl, .inl rfl⟩ | exact ⟨rfl, _, rfl, .inr ⟨rfl, by first | rfl | assumption ⟩⟩
          ·
            refine Wr 234 241 (by decide) rfl rfl (Od rfl rfl (Mv rfl rfl) (Od rfl rfl (Mv rfl rfl) ?_))
            first
                | (refine RW.sd rfl rfl rfl ?_ rfl ?_; (· (first | rfl | assumption)))
                | (refine RW.gd rfl rfl rfl ?_ rfl (LO.load_agg rfl rfl rfl ty25 rfl (Tk.lit rfl)) ?_; (· (first | rfl | assumption)))
                | (refine RW.gd rfl rfl rfl ?_ rfl (LO.load_imm_agg rfl rfl ty25 rfl (Tk.lit rfl)) ?_; (· (first | rfl | assumption)))
            first
                | (refine RW.sd rfl rfl rfl ?_ rfl ?_; (· (first | rfl | assumption)))
                | (refine RW.gd rfl rfl rfl ?_ rfl (LO.load_agg rfl rfl rfl ty25 rfl (Tk.lit rfl)) ?_; (· (first | rfl | assumption)))
                | (refine RW.gd rfl rfl rfl ?_ rfl (LO.load_imm_agg rfl rfl ty25 rfl (Tk.lit rfl)) ?_; (· (first | rfl | assumption)))
            first
                | (refine RW.sd rfl rfl rfl ?_ rfl ?_; (· (first | rfl | assumption)))
                | (refine RW.gd rfl rfl rfl ?_ rfl (LO.eql_ad ⟨x6, xh, xl⟩ aa rfl rfl rfl) ?_; (· (first | rfl | assumption)))
            first
                | (refine RW.opd rfl rfl (LO.pick_t rfl rfl ?_ rfl) ?_; (· (first | rfl | assumption)))
                | (refine RW.opd rfl rfl (LO.pick_f rfl rfl ?_ rfl) ?_; (· (first | rfl | assumption)))
            refine Od rfl rfl (As rfl rfl) (Nl (Wr 245 247 (by decide) rfl rfl ?_))
            first
                | (refine RW.opd rfl rfl (LO.add_in rfl rfl rfl ?_) ?_; (· (first | exact IntWalk.i64_in _ (by omega) | assumption)))
                | (refine RW.opd rfl rfl (LO.add rfl rfl rfl) ?_)
            refine Od rfl rfl (Mv rfl rfl) (Nl (WL.renameL [(0, 0)] 1 (by decide) ?_ ?_ (ihB ((i + 1), true) (show N.length - (i + 1) < N.length - i from by omega) (show (i + 1) ≤ N.length ∧ true = (N.take (i + 1)).any (fun x => eqA x aa) from ⟨by omega, htm.symm⟩))))
            · (repeat' (first | exact LookR.nil | refine LookR.cons ?_ ?_)) <;> first | exact .inl ⟨rfl, rfl⟩ | exact .inr ⟨rfl, fun _ h => by cases h⟩ | exact .inl ⟨rfl, by first | rfl | assumption ⟩
            · (repeat' (first | exact all_mt | refine all_up ?_ ?_)) <;> first | exact ⟨rfl, _, rfl, .inr ⟨rfl, rfl⟩⟩ | exact ⟨rfl, _, rfl, .inl rfl⟩ | exact ⟨rfl, _, rfl, .inr ⟨rfl, by first | rfl | assumption ⟩⟩
        · have g1 : decide ((i : Int) < (N.length : Int)) = false := decide_eq_false (by omega)
          have hft : fl = true := by rw [hfl, List.take_of_length_le (by omega)]; exact List.any_eq_true.2 ⟨aa, e5, eqA_iff.2 rfl⟩
          subst hft
          refine Wq (Wr 221 222 (by decide) rfl rfl (Od rfl rfl (Ls rfl rfl rfl) (Nl (Wq (Wf rfl (by first|rfl|assumption) (Wx (Wq (Wr 251 259 (by decide) rfl rfl (Od rfl rfl (Mv rfl rfl) (Od rfl rfl (Mv rfl rfl) ?_))))))))))
          first
              | (refine RW.sd rfl rfl rfl ?_ rfl ?_; (· (first | rfl | assumption)))
              | (refine RW.gd rfl rfl rfl ?_ rfl (LO.move rfl rfl) ?_; (· (first | rfl | assumption)))
          first
              | (refine RW.opd rfl rfl (LO.pick_t rfl rfl ?_ rfl) ?_; (· (first | rfl | assumption)))
              | (refine RW.opd rfl rfl (LO.pick_f rfl rfl ?_ rfl) ?_; (· (first | rfl | assumption)))
          refine Od rfl rfl (Mv rfl rfl) ?_
          first
              | (refine RW.sd rfl rfl rfl ?_ rfl ?_; (· (first | rfl | assumption)))
              | (refine RW.gd rfl rfl rfl ?_ rfl (LO.call0 (fr := []) rfl rfl (hawk) fok11 .nil rfl) ?_; (· (first | rfl | assumption)))
          first
              | (refine RW.opd rfl rfl (LO.pick_t rfl rfl ?_ rfl) ?_; (· (first | rfl | assumption)))
              | (refine RW.opd rfl rfl (LO.pick_f rfl rfl ?_ rfl) ?_; (· (first | rfl | assumption)))
          refine Od rfl rfl (As rfl rfl) (Nl (W.ret ⟨.inl rfl, _, mt, RVs.cons (RV.tmp rfl) (RVs.nil), all_mt, ?_⟩))
          exact ⟨rfl, rfl⟩
end Go.Proofs.YtcidmiacfjdepaaDoor
