/-
  The rule of a port, copied.
-/
import Derived.Test.YtcidmiacfjdepaaDoorVb
import Derived.Test.YtcidmiacfjdepaaDoorMab
namespace Go.Proofs.YtcidmiacfjdepaaDoor
open Go.RowKit

theorem cloneAE (A : Option Addr) (cap : Nat) : AFn Tryd.prog 59 0 [.base (.slice A 0 cap)] mt (.isl [] 0) mt := by
  refine AFn.eq Tryd.func59 rfl rfl (Nat.le_of_ble_eq_true rfl) (Wq (Wr 0 1 (by decide) rfl rfl (Od rfl rfl (As rfl rfl) (Nl ?_))))
  cases A with
  | none =>
    refine Wq (Wq (Wr 5 7 (by decide) rfl rfl (Od rfl rfl (Mv rfl rfl) (Od rfl rfl (LO.eqNilB rfl rfl rfl ty41) (Nl (Wt rfl (by first|rfl|assumption) (Wq (Wr 11 12 (by decide) rfl rfl (Od rfl rfl (As rfl rfl) (Nl (W.nilt (t := 2) rfl (W.ret ⟨.inl rfl, _, mt, RVs.cons (RV.tmp rfl) (RVs.nil), all_mt, ?_⟩))))))))))))
    exact ⟨rfl, rfl⟩
  | some A =>
    refine Wq (Wq (Wr 5 7 (by decide) rfl rfl (Od rfl rfl (Mv rfl rfl) (Od rfl rfl (LO.eqNilB rfl rfl rfl ty41) (Nl (Wf rfl (by first|rfl|assumption) (Wk (Wq (Wr 16 20 (by decide) rfl rfl (Od rfl rfl (LO.buildSlice rfl ty41 ty25 (by decide) (by decide) .nil) (Od rfl rfl (LO.moveE rfl rfl) ?_)))))))))))
    first
        | (refine RW.opd rfl rfl (LO.append_nil rfl rfl (SrcAV.isl rfl rfl ?_) ty41 ty41 ty25 (by decide) ?_ ?_ ?_) ?_; (· (first | rfl | assumption | fail)); (· (first | omega | decide | assumption | fail | (simp; done) | (simp; omega))); (· (first | omega | decide | assumption | fail | (simp; done) | (simp; omega))); (· (first | decide | omega)))
        | (refine RW.opd rfl rfl (LO.append_nil rfl rfl (SrcAV.own rfl rfl (Tk.lit rfl)) ty41 ty41 ty25 (by decide) ?_ ?_ ?_) ?_; (· (first | omega | decide | assumption | fail | (simp; done) | (simp; omega))); (· (first | omega | decide | assumption | fail | (simp; done) | (simp; omega))); (· (first | decide | omega)))
        | (refine RW.opd rfl rfl (LO.append rfl rfl (SrcAV.isl rfl rfl ?_) rfl (Tk.lit rfl) ty41 ty41 ty25 (by decide) ?_ ?_ ?_) ?_; (· (first | rfl | assumption | fail)); (· (first | omega | decide | assumption | fail | (simp; done) | (simp; omega))); (· (first | omega | decide | assumption | fail | (simp; done) | (simp; omega))); (· (first | decide | omega)))
        | (refine RW.opd rfl rfl (LO.append rfl rfl (SrcAV.own rfl rfl (Tk.lit rfl)) rfl (Tk.lit rfl) ty41 ty41 ty25 (by decide) ?_ ?_ ?_) ?_; (· (first | omega | decide | assumption | fail | (simp; done) | (simp; omega))); (· (first | omega | decide | assumption | fail | (simp; done) | (simp; omega))); (· (first | decide | omega)))
    refine Od rfl rfl (As rfl rfl) (Nl (W.frz1 (t := 2) rfl rfl (Tk.lit rfl) rfl (W.ret ⟨.inl rfl, _, mt, RVs.cons (RV.tmp rfl) (RVs.nil), all_mt, ?_⟩)))
    exact ⟨rfl, rfl⟩
theorem adsC_len (l : List Ad) : (adsC l).length = l.length * 3 := flatLen (c := adC) (fun _ => rfl) l
theorem cloneA_any (b : List Ad) (hl : b.length ≤ 1000) : AFn Tryd.prog 59 0 [.isl (adsC b) b.length] mt (.isl (adsC b) b.length) mt := by
  rcases Nat.eq_zero_or_pos b.length with h | h
  · rw [List.eq_nil_of_length_eq_zero h]
    exact .empty0 cloneAE
  · refine AFn.eq Tryd.func59 rfl rfl (Nat.le_of_ble_eq_true rfl) ?_
    have hz := adsC_len b
    refine Wq (Wr 0 1 (by decide) rfl rfl (Od rfl rfl (As rfl rfl) (Nl (Wq (Wq (Wr 5 7 (by decide) rfl rfl (Od rfl rfl (Mv rfl rfl) (Od rfl rfl (LO.eqNilI rfl rfl rfl h rfl ty41) (Nl (Wf rfl (by first|rfl|assumption) (Wk (Wq (Wr 16 20 (by decide) rfl rfl (Od rfl rfl (LO.buildSlice rfl ty41 ty25 (by decide) (by decide) .nil) (Od rfl rfl (Mv rfl rfl) (Od rfl rfl (LO.append rfl rfl (SrcAV.isl rfl rfl hz) rfl (Tk.lit rfl) ty41 ty41 ty25 (by decide) (by omega) (by omega) (by decide)) (Od rfl rfl (As rfl rfl) (Nl ?_))))))))))))))))))
    rw [List.nil_append, show 0 + b.length = b.length from Nat.zero_add _]
    refine W.frz1 (t := 2) rfl rfl (ads_all rfl) (adsC_pure _) (W.ret ⟨.inl rfl, _, mt, RVs.cons (RV.tmp rfl) (RVs.nil), all_mt, ?_⟩)
    exact ⟨rfl, rfl⟩
theorem cloneM_any (b : List (List Int)) (h6 : ∀ m, m ∈ b → m.length = 6) (h : 0 < b.length) (hl : b.length ≤ 1000) : AFn Tryd.prog 58 0 [.isl (macsC b) b.length] mt (.isl (macsC b) b.length) mt := by
  refine AFn.eq Tryd.func58 rfl rfl (Nat.le_of_ble_eq_true rfl) ?_
  have hz := macsC_len h6
  refine Wq (Wr 0 1 (by decide) rfl rfl (Od rfl rfl (As rfl rfl) (Nl (Wq (Wq (Wr 5 7 (by decide) rfl rfl (Od rfl rfl (Mv rfl rfl) (Od rfl rfl (LO.eqNilI rfl rfl rfl h rfl ty40) (Nl (Wf rfl (by first|rfl|assumption) (Wk (Wq (Wr 16 20 (by decide) rfl rfl (Od rfl rfl (LO.buildSlice rfl ty40 ty50 (by decide) (by decide) .nil) (Od rfl rfl (Mv rfl rfl) (Od rfl rfl (LO.append rfl rfl (SrcAV.isl rfl rfl hz) rfl (Tk.lit rfl) ty40 ty40 ty50 (by decide) (by omega) (by omega) (by decide)) (Od rfl rfl (As rfl rfl) (Nl ?_))))))))))))))))))
  rw [List.nil_append, show 0 + b.length = b.length from Nat.zero_add _]
  refine W.frz1 (t := 2) rfl rfl (macs_all h6) (macsC_pure _) (W.ret ⟨.inl rfl, _, mt, RVs.cons (RV.tmp rfl) (RVs.nil), all_mt, ?_⟩)
  exact ⟨rfl, rfl⟩
theorem owned_any (r : Rl) (hr : RlOk r) : AFn Tryd.prog 34 0 [.agg (ruleC r)] mt (.agg (ruleC r)) mt := by
  refine AFn.eq Tryd.func34 rfl rfl (Nat.le_of_ble_eq_true rfl) ?_
  have c1 := cloneM_any r.macs (fun m hm => (hr.macs m hm).1) (by have := hr.nm; omega) (by have := hr.nm; omega)
  have c2 := cloneA_any r.v4 hr.n4
  have c3 := cloneA_any r.v6 hr.n6
  refine Wq (Wr 0 2 (by decide) rfl rfl (Od rfl rfl (Bx rfl rfl rfl) (Od rfl rfl (Al rfl ty43) (Nl (Wq (Wd 6 21 (by decide) rfl mixed rfl ?_))))))
  first
      | (refine RW.opd rfl rfl (LO.fieldAddr rfl rfl ty43 rfl (by decide)) ?_)
      | (refine RW.opd rfl rfl (LO.fieldAddr_imm rfl rfl ty43 rfl (by decide)) ?_)
  first
      | (refine RW.opd rfl rfl (LO.load rfl rfl rfl rfl ty40 rfl) ?_)
      | (refine RW.opd rfl rfl (LO.load_imm rfl rfl rfl ty40 rfl) ?_)
  refine Od rfl rfl (C0 (fr := []) rfl rfl (c1) fok58 (.cons rfl (.pure rfl) .nil) rfl) ?_
  first
      | (refine RW.opd rfl rfl (LO.fieldAddr rfl rfl ty43 rfl (by decide)) ?_)
      | (refine RW.opd rfl rfl (LO.fieldAddr_imm rfl rfl ty43 rfl (by decide)) ?_)
  first
      | (refine RW.opd rfl rfl (LO.load rfl rfl rfl rfl ty41 rfl) ?_)
      | (refine RW.opd rfl rfl (LO.load_imm rfl rfl rfl ty41 rfl) ?_)
  refine Od rfl rfl (C0 (fr := []) rfl rfl (c2) fok59 (.cons rfl (.pure rfl) .nil) rfl) ?_
  first
      | (refine RW.opd rfl rfl (LO.fieldAddr rfl rfl ty43 rfl (by decide)) ?_)
      | (refine RW.opd rfl rfl (LO.fieldAddr_imm rfl rfl ty43 rfl (by decide)) ?_)
  first
      | (refine RW.opd rfl rfl (LO.load rfl rfl rfl rfl ty41 rfl) ?_)
      | (refine RW.opd rfl rfl (LO.load_imm rfl rfl rfl ty41 rfl) ?_)
  refine Od rfl rfl (C0 (fr := []) rfl rfl (c3) fok59 (.cons rfl (.pure rfl) .nil) rfl) ?_
  first
      | (refine RW.opd rfl rfl (LO.fieldAddr rfl rfl ty43 rfl (by decide)) ?_)
      | (refine RW.opd rfl rfl (LO.fieldAddr_imm rfl rfl ty43 rfl (by decide)) ?_)
  refine On rfl rfl (Sr rfl rfl rfl rfl rfl ty40 rfl (by decide) (Sp.lit rfl)) ?_
  first
      | (refine RW.opd rfl rfl (LO.fieldAddr rfl rfl ty43 rfl (by decide)) ?_)
      | (refine RW.opd rfl rfl (LO.fieldAddr_imm rfl rfl ty43 rfl (by decide)) ?_)
  refine On rfl rfl (Sr rfl rfl rfl rfl rfl ty41 rfl (by decide) (Sp.lit rfl)) ?_
  first
      | (refine RW.opd rfl rfl (LO.fieldAddr rfl rfl ty43 rfl (by decide)) ?_)
      | (refine RW.opd rfl rfl (LO.fieldAddr_imm rfl rfl ty43 rfl (by decide)) ?_)
  refine On rfl rfl (Sr rfl rfl rfl rfl rfl ty41 rfl (by decide) (Sp.lit rfl)) (Nl ⟨by kernel_rfl, (Wq (Wr 25 27 (by decide) rfl rfl ?_))⟩)
  first
      | (refine RW.opd rfl rfl (LO.load_agg rfl rfl rfl ty43 rfl (Tk.lit rfl)) ?_)
      | (refine RW.opd rfl rfl (LO.load_imm_agg rfl rfl ty43 rfl (Tk.lit rfl)) ?_)
  refine On rfl rfl (Sr rfl rfl rfl rfl rfl ty43 rfl (by decide) (Sp.lit rfl)) (Nl ?_)
  refine W.ret ⟨.inl rfl, _, mt, (RVs.cons (RV.cellA rfl rfl ty43 rfl (Tk.lit rfl)) RVs.nil), (by (repeat' (first | exact all_mt | refine all_up ?_ ?_)) <;> rfl), ?_⟩
  exact ⟨rfl, rfl⟩
/-- the first rule of a port -/
def ruleF : List Rl → Int → Option Rl
  | [], _ => none
  | r :: l, p => if r.port == p then some r else ruleF l p
theorem ruleM_any (l : List Rl) (p : Int) (r : Rl) (h : ruleF l p = some r) (hl : l.length ≤ 1000) (hr : ∀ x, x ∈ l → RlOk x) : AFn Tryd.prog 18 0 [.isl (rulesC l) l.length, .base (.int .i64 p)] mt (.tup [.agg (ruleC r), .base (.bool true)]) mt := by
  refine AFn.eq Tryd.func18 rfl rfl (Nat.le_of_ble_eq_true rfl) (Wq (Wr 0 2 (by decide) rfl rfl (Od rfl rfl (Al rfl ty43) (Od rfl rfl (As rfl rfl) (Nl (Wq (Wq (Wr 6 9 (by decide) rfl rfl (Od rfl rfl (Mv rfl rfl) ?_)))))))))
  first
      | (refine RW.opd rfl rfl (LO.len rfl rfl ty34) ?_)
      | (refine RW.opd rfl rfl (LO.len_isl rfl rfl rfl ty34) ?_)
      | (refine RW.opd rfl rfl (LO.len_nil rfl rfl ty34) ?_)
  refine Od rfl rfl (Mv rfl rfl) (Nl (Wb (W.rename [(0, 0)] 1 (T' := up (up (up (up (up mt 1 (some (.base (.int .i64 p)))) 4 (some (.own 0 0))) 8 (some (.isl (rulesC l) l.length))) 9 (some (.base (.int .i64 (l.length : Int))))) 10 (some (.base (.int .i64 (0 : Int))))) (H' := up mt 0 (some ([.base (.int .i64 0), .base (.int .i64 0), .base (.int .i64 0), .nils, .nils, .nils, .base (.int .i64 0), .base (.int .i64 0)]))) (by decide) ?_ ?_ ?_)))
  · (repeat' (first | exact all_mt | refine all_up ?_ ?_)) <;> first | exact .inl ⟨rfl, rfl⟩ | exact .inr ⟨rfl, fun _ h => by cases h⟩ | exact .inl ⟨rfl, by first | rfl | assumption ⟩
  · (repeat' (first | exact all_mt | refine all_up ?_ ?_)) <;> first | exact ⟨rfl, _, rfl, .inr ⟨rfl, rfl⟩⟩ | exact ⟨rfl, _, rfl, .inl rfl⟩ | exact ⟨rfl, _, rfl, .inr ⟨rfl, by first | rfl | assumption ⟩⟩
  refine W.loop_ind (α := Nat) (fun x => l.length - x) 1 (fun x => up (up (up (up (up mt 1 (some (.base (.int .i64 p)))) 4 (some (.own 0 0))) 8 (some (.isl (rulesC l) l.length))) 9 (some (.base (.int .i64 (l.length : Int))))) 10 (some (.base (.int .i64 (x : Int))))) (fun x => up mt 0 (some ([.base (.int .i64 0), .base (.int .i64 0), .base (.int .i64 0), .nils, .nils, .nils, .base (.int .i64 0), .base (.int .i64 0)]))) (fun x => x ≤ l.length ∧ ruleF (l.drop x) p = some r) 0 (show 0 ≤ l.length ∧ ruleF (l.drop 0) p = some r from ⟨Nat.zero_le _, h⟩) ?_
  rintro i hIA ihA
  try (dsimp only at hIA)
  try dsimp only
  obtain ⟨hi, hw⟩ := hIA
  by_cases hc : i < l.length
  · have g1 : decide ((i : Int) < (l.length : Int)) = true := decide_eq_true (by omega)
    have how := owned_any _ (hr _ (List.getElem_mem hc))
    have hdr : ruleF (l.drop i) p = if l[i].port == p then some l[i] else ruleF (l.drop (i + 1)) p := by
      rw [List.drop_eq_getElem_cons hc]; rfl
    refine Wq (Wr 13 14 (by decide) rfl rfl (Od rfl rfl (Ls rfl rfl rfl) (Nl (Wq (Wt rfl (by first|rfl|assumption) (Wk (Wq (Wb (Wq (Wr 18 22 (by decide) rfl rfl ?_))))))))))
    first
        | (refine RW.opd rfl rfl (LO.indexAddr rfl rfl rfl rfl ty34 ty43 ?_) ?_; (· (first | omega | decide | assumption | fail | (simp; done) | (simp; omega))))
        | (refine RW.opd rfl rfl (LO.indexAddr_isl rfl rfl rfl rfl rfl ty34 ty43 ?_) ?_; (· (first | omega | decide | assumption | fail | (simp; done) | (simp; omega))))
    first
        | (refine RW.opd rfl rfl (LO.load_agg rfl rfl rfl ty43 rfl (Tk.lit rfl)) ?_)
        | (refine RW.opd rfl rfl (LO.load_agg rfl rfl rfl ty43 rfl (rules_tk hc)) ?_)
        | (refine RW.opd rfl rfl (LO.load_imm_agg rfl rfl ty43 rfl (Tk.lit rfl)) ?_)
        | (refine RW.opd rfl rfl (LO.load_imm_agg rfl rfl ty43 rfl (rules_tk hc)) ?_)
    refine Od rfl rfl (Al rfl ty43) (On rfl rfl (Sr rfl rfl rfl rfl rfl ty43 rfl (by decide) (Sp.lit rfl)) (Nl ?_))
    generalize l[i] = x at *
    rw [hdr] at hw
    cases k1 : (x.port == p)
    ·
      rw [k1] at hw
      refine Wq (Wr 26 30 (by decide) rfl rfl ?_)
      first
          | (refine RW.opd rfl rfl (LO.fieldAddr rfl rfl ty43 rfl (by decide)) ?_)
          | (refine RW.opd rfl rfl (LO.fieldAddr_imm rfl rfl ty43 rfl (by decide)) ?_)
      first
          | (refine RW.opd rfl rfl (LO.load rfl rfl rfl rfl ty3 rfl) ?_)
          | (refine RW.opd rfl rfl (LO.load_imm rfl rfl rfl ty3 rfl) ?_)
      refine Od rfl rfl (Mv rfl rfl) (Od rfl rfl (Eq0 rfl rfl rfl) (Nl (Wf rfl (by first|rfl|assumption) (Wk (Wr 42 44 (by decide) rfl rfl ?_)))))
      first
          | (refine RW.opd rfl rfl (LO.add_in rfl rfl rfl ?_) ?_; (· (first | exact IntWalk.i64_in _ (by omega) | assumption)))
          | (refine RW.opd rfl rfl (LO.add rfl rfl rfl) ?_)
      refine Od rfl rfl (Mv rfl rfl) (Nl (WL.rename [(0, 0)] 1 (by decide) ?_ ?_ (ihA (i + 1) (show l.length - (i + 1) < l.length - i from by omega) (show (i + 1) ≤ l.length ∧ ruleF (l.drop (i + 1)) p = some r from ⟨by omega, hw⟩))))
      · (repeat' (first | exact all_mt | refine all_up ?_ ?_)) <;> first | exact .inl ⟨rfl, rfl⟩ | exact .inr ⟨rfl, fun _ h => by cases h⟩ | exact .inl ⟨rfl, by first | rfl | assumption ⟩
      · (repeat' (first | exact all_mt | refine all_up ?_ ?_)) <;> first | exact ⟨rfl, _, rfl, .inr ⟨rfl, rfl⟩⟩ | exact ⟨rfl, _, rfl, .inl rfl⟩ | exact ⟨rfl, _, rfl, .inr ⟨rfl, by first | rfl | assumption ⟩⟩
    ·
      rw [k1] at hw
      have e : x = r := by simpa using hw
      subst e
      refine Wq (Wr 26 30 (by decide) rfl rfl ?_)
      first
          | (refine RW.opd rfl rfl (LO.fieldAddr rfl rfl ty43 rfl (by decide)) ?_)
          | (refine RW.opd rfl rfl (LO.fieldAddr_imm rfl rfl ty43 rfl (by decide)) ?_)
      first
          | (refine RW.opd rfl rfl (LO.load rfl rfl rfl rfl ty3 rfl) ?_)
          | (refine RW.opd rfl rfl (LO.load_imm rfl rfl rfl ty3 rfl) ?_)
      refine Od rfl rfl (Mv rfl rfl) (Od rfl rfl (Eq0 rfl rfl rfl) (Nl (Wt rfl (by first|rfl|assumption) (Wq (Wr 34 38 (by decide) rfl rfl ?_)))))
      first
          | (refine RW.opd rfl rfl (LO.load_agg rfl rfl rfl ty43 rfl (Tk.lit rfl)) ?_)
          | (refine RW.opd rfl rfl (LO.load_imm_agg rfl rfl ty43 rfl (Tk.lit rfl)) ?_)
      refine Od rfl rfl (C0 (fr := []) rfl rfl (how) fok34 (.cons rfl (.pure rfl) .nil) rfl) (On rfl rfl (Sr rfl rfl rfl rfl rfl ty43 rfl (by decide) (Sp.lit rfl)) (Od rfl rfl (As rfl rfl) (Nl ?_)))
      refine W.ret ⟨.inl rfl, _, mt, (RVs.cons (RV.cellA rfl rfl ty43 rfl (Tk.lit rfl)) (RVs.cons (RV.tmp rfl) RVs.nil)), (by (repeat' (first | exact all_mt | refine all_up ?_ ?_)) <;> rfl), ?_⟩
      exact ⟨rfl, rfl⟩
  · have g1 : decide ((i : Int) < (l.length : Int)) = false := decide_eq_false (by omega)
    exfalso
    obtain rfl : i = l.length := by omega
    rw [List.drop_length] at hw
    cases hw
/-! plain -/
theorem rule_first : ∀ {ps : List Prt} {g : Int → Int} {p : Prt}, p ∈ ps → (∀ q, q ∈ ps → q.id = p.id → q = p) → ruleF (ps.map (ruleOf g 2 3)) p.id = some (ruleOf g 2 3 p) := by
  intro ps
  induction ps with
  | nil => intro g p h; cases h
  | cons x ps ih =>
    intro g p h hu
    show (if (ruleOf g 2 3 x).port == p.id then some (ruleOf g 2 3 x) else ruleF (ps.map (ruleOf g 2 3)) p.id) = _
    by_cases e : x.id = p.id
    · rw [if_pos (by simpa [ruleOf] using e), hu x (by simp) e]
    · rw [if_neg (by simpa [ruleOf] using e)]
      rcases List.mem_cons.1 h with rfl | h
      · exact absurd rfl e
      · exact ih h fun q hq => hu q (by simp [hq])
theorem DbFine.ids {l : List Int} {d : Db} (h : DbFine l d) {p q : Prt} (hp : p ∈ allP d) (hq : q ∈ allP d) (e : q.id = p.id) : q = p := by
  obtain ⟨i, hi, rfl⟩ := List.getElem_of_mem hp
  obtain ⟨j, hj, rfl⟩ := List.getElem_of_mem hq
  have h1 := (h.good i hi).id
  have h2 := (h.good j hj).id
  obtain rfl : i = j := by omega
  rfl
theorem where_some : ∀ {ps : List Prt} {g : Int → Int} {m : List Int} {r : Rl}, whereF (ps.map (ruleOf g 2 3)) m = some r → ∃ p, p ∈ ps ∧ r = ruleOf g 2 3 p ∧ m ∈ p.macs := by
  intro ps
  induction ps with
  | nil => intro g m r h; cases h
  | cons x ps ih =>
    intro g m r h
    rw [show whereF ((x :: ps).map (ruleOf g 2 3)) m = if m ∈ x.macs then some (ruleOf g 2 3 x) else whereF (ps.map (ruleOf g 2 3)) m from rfl] at h
    split at h
    · rename_i hm
      injection h with h
      exact ⟨x, by simp, h.symm, hm⟩
    · obtain ⟨p, h1, h2, h3⟩ := ih h
      exact ⟨p, by simp [h1], h2, h3⟩
/-- whom a frame reaches -/
theorem DbFine.reach {l : List Int} {d : Db} (h : DbFine l d) {g : Int → Int} {bs : List Bd} (hp : List.Perm bs (bdsOf (allP d))) {f : Fr} (ho : (tgtF ((allP d).map (ruleOf g 2 3)) bs f).2.2 = true) :
    ∃ p, p ∈ allP d ∧ (tgtF ((allP d).map (ruleOf g 2 3)) bs f).1 = p.id ∧ (tgtF ((allP d).map (ruleOf g 2 3)) bs f).2.1 ∈ p.macs ∧ ((grpE f.dst = false ∧ (tgtF ((allP d).map (ruleOf g 2 3)) bs f).2.1 = f.dst) ∨ (grpE f.dst = true ∧ (asksF f).2 = true ∧ (asksF f).1 ∈ ad1 p.v4 ++ ad1 p.v6)) := by
  have hl := h.len
  unfold tgtF at ho ⊢
  cases hg : grpE f.dst
  · rw [hg, if_neg (by decide)] at ho
    rw [if_neg (by decide)]
    unfold whereP at ho ⊢
    cases hw : whereF ((allP d).map (ruleOf g 2 3)) f.dst with
    | none => rw [hw] at ho; cases ho
    | some r =>
      obtain ⟨p, h1, h2, h3⟩ := where_some hw
      exact ⟨p, h1, by rw [h2]; rfl, h3, .inl ⟨rfl, rfl⟩⟩
  · rw [hg, if_pos rfl] at ho
    rw [if_pos rfl]
    unfold boundP at ho ⊢
    cases hb : boundF bs (asksF f).1 with
    | none => rw [hb] at ho; simp at ho
    | some b =>
      rw [hb] at ho
      obtain ⟨h1, h2⟩ := boundF_mem hb
      obtain ⟨q, h3, h4⟩ := List.mem_flatMap.1 (hp.mem_iff.1 h1)
      obtain ⟨c, h5, rfl⟩ := List.mem_map.1 h4
      dsimp only at h2 ho ⊢
      obtain ⟨i, hi, rfl⟩ := List.getElem_of_mem h3
      exact ⟨_, h3, rfl, (macOf_mem (h.good i hi) (by omega) (by omega)).1, .inr ⟨rfl, by simpa using ho, by rw [← h2]; exact h5⟩⟩
theorem grp_same : ∀ x : Fin 256, (bitV .and .u8 (x.val : Int) 1 == 1) = ((x.val : Int) % 2 == 1) := by decide +kernel
theorem grp_eq {x : Int} (h : 0 ≤ x ∧ x ≤ 255) (r : List Int) : grpM (x :: r) = grpE (x :: r) := by
  have := grp_same ⟨x.toNat, by omega⟩
  have e : ((x.toNat : Nat) : Int) = x := by omega
  dsimp only at this
  rw [e] at this
  exact this.symm
end Go.Proofs.YtcidmiacfjdepaaDoor
