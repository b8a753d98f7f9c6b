/-
  Databases that the document's check lets pass.
-/
import Derived.Test.YtcidmiacfjdepaaDoorJe
namespace Go.Proofs.YtcidmiacfjdepaaDoor
open Go.RowKit

def emptyS : ByteArray := ⟨#[]⟩
def asA : ByteArray := ⟨#[65, 83, 45, 65]⟩
def asB : ByteArray := ⟨#[65, 83, 45, 66]⟩
def nameB (s : ByteArray) : Bool := decide (1 ≤ s.size) && decide (s.size ≤ 32) && (List.range s.size).all fun i => match s[i]? with
  | some b => decide ((97 ≤ b.toNat ∧ b.toNat ≤ 122) ∨ (65 ≤ b.toNat ∧ b.toNat ≤ 90) ∨ (48 ≤ b.toNat ∧ b.toNat ≤ 57) ∨ b.toNat = 45 ∨ b.toNat = 58)
  | none => true
theorem NameOk.of {s : ByteArray} (h : nameB s = true) : NameOk s := by
  unfold nameB at h
  simp only [Bool.and_eq_true, decide_eq_true_eq, List.all_eq_true, List.mem_range] at h
  refine ⟨h.1.1, h.1.2, fun i b hb => ?_⟩
  have hi : i < s.size := by
    rcases Nat.lt_or_ge i s.size with h1 | h1
    · exact h1
    · rw [getElem?_neg s i (by omega)] at hb; cases hb
  have := h.2 i hi
  rw [hb] at this
  simp only [decide_eq_true_eq] at this
  unfold okC
  omega
theorem asA_ok : NameOk asA := .of (by decide +kernel)
theorem asB_ok : NameOk asB := .of (by decide +kernel)
structure MemOk (m : Mem) : Prop where
  asn : 1 ≤ m.asn ∧ m.asn ≤ 4294967295
  name : NameOk m.name
  set : m.set = emptyS ∨ m.set = asA ∨ m.set = asB
  max4 : 0 ≤ m.max4 ∧ m.max4 ≤ 512
  max6 : 0 ≤ m.max6 ∧ m.max6 ≤ 512
  np : 1 ≤ m.ports.length ∧ m.ports.length ≤ 4
  ports : ∀ p, p ∈ m.ports → PrtOk p
structure DbOk (d : Db) : Prop where
  l4 : d.lan4 = lan4
  l6 : d.lan6 = lan6
  ns : d.servers.length ≤ 4
  nm : d.members.length ≤ 32
  mem : ∀ m, m ∈ d.servers ++ d.members → MemOk m
set_option maxHeartbeats 1000000 in
theorem many_any (d : Db) (hd : DbOk d) : AFn Tryd.prog 43 0 [.agg (dbC d)] mt (.base (.bool false)) mt := by
  refine AFn.eq Tryd.func43 rfl rfl (Nat.le_of_ble_eq_true rfl) ?_
  have h4 := hd.ns
  have h32 := hd.nm
  have hmem := hd.mem
  have hall := all_any d (by omega) (by omega)
  obtain ⟨A, hA⟩ : ∃ A, A = d.servers ++ d.members := ⟨_, rfl⟩
  rw [← hA] at hall hmem
  have hAl : A.length ≤ 2000 := by rw [hA, List.length_append]; omega
  have g4 : decide ((d.servers.length : Int) > 4) = false := decide_eq_false (by omega)
  have g32 : decide ((d.members.length : Int) > 32) = false := decide_eq_false (by omega)
  repeat (refine W.seq ?_)
  refine W.region 0 2 (by decide) rfl rfl ?_
  refine RW.opd rfl rfl (LO.box rfl rfl rfl) ?_
  refine RW.opd rfl rfl (LO.assign rfl rfl) ?_
  refine RW.nil ?_
  repeat (refine W.seq ?_)
  refine W.region 6 16 (by decide) rfl rfl ?_
  refine RW.opd rfl rfl (LO.fieldAddr rfl rfl ty30 rfl (by decide)) ?_
  refine RW.opd rfl rfl (LO.load rfl rfl rfl rfl ty28 rfl) ?_
  refine RW.opd rfl rfl (LO.len_isl rfl rfl rfl ty28) ?_
  refine RW.opd rfl rfl (LO.gtr rfl rfl rfl) ?_
  refine RW.opd rfl rfl (LO.move rfl rfl) ?_
  refine RW.gd rfl rfl rfl ?_ rfl (LO.fieldAddr rfl rfl ty30 rfl (by decide)) ?_; (· (first | rfl | assumption))
  refine RW.gd rfl rfl rfl ?_ rfl (LO.load rfl rfl rfl rfl ty28 rfl) ?_; (· (first | rfl | assumption))
  refine RW.gd rfl rfl rfl ?_ rfl (LO.len_isl rfl rfl rfl ty28) ?_; (· (first | rfl | assumption))
  refine RW.gd rfl rfl rfl ?_ rfl (LO.gtr rfl rfl rfl) ?_; (· (first | rfl | assumption))
  refine RW.opd rfl rfl (LO.pick_f rfl rfl ?_ rfl) ?_; (· (first | rfl | assumption))
  refine RW.nil ?_
  repeat (refine W.seq ?_)
  refine W.cond_f rfl (by first | rfl | assumption) ?_
  refine W.skip ?_
  repeat (refine W.seq ?_)
  refine W.region 25 29 (by decide) rfl rfl ?_
  refine RW.opd rfl rfl (LO.load_agg rfl rfl rfl ty30 rfl (Tk.lit rfl)) ?_
  refine RW.opd rfl rfl (LO.call0 (fr := []) rfl rfl (hall) fok47 (.cons rfl (.pure rfl) .nil) rfl) ?_
  refine RW.opd rfl rfl (LO.len_isl rfl rfl rfl ty28) ?_
  refine RW.opd rfl rfl (LO.move rfl rfl) ?_
  refine RW.nil ?_
  repeat (refine W.seq ?_)
  refine W.block ?_
  refine W.rename [] 0 (T' := up (up (up mt 18 (some (.isl (memsC A) A.length))) 19 (some (.base (.int .i64 (A.length : Int))))) 20 (some (.base (.int .i64 (0 : Int))))) (H' := mt) (by decide) ?_ ?_ ?_
  · (repeat' (first | exact all_mt | refine all_up ?_ ?_)) <;> first | exact .inl ⟨rfl, rfl⟩ | exact .inr ⟨rfl, fun _ h => by cases h⟩ | exact .inl ⟨rfl, by first | rfl | assumption ⟩
  · (repeat' (first | exact all_mt | refine all_up ?_ ?_)) <;> first | exact ⟨rfl, _, rfl, .inr ⟨rfl, rfl⟩⟩ | exact ⟨rfl, _, rfl, .inl rfl⟩ | exact ⟨rfl, _, rfl, .inr ⟨rfl, by first | rfl | assumption ⟩⟩
  refine W.loop_ind (α := Nat) (fun x => A.length - x) 0 (fun x => up (up (up mt 18 (some (.isl (memsC A) A.length))) 19 (some (.base (.int .i64 (A.length : Int))))) 20 (some (.base (.int .i64 (x : Int))))) (fun x => mt) (fun x => x ≤ A.length) 0 (show 0 ≤ A.length from Nat.zero_le _) ?_
  rintro i hIA ihA
  try (dsimp only at hIA)
  try dsimp only
  by_cases hc : i < A.length
  · have g1 : decide ((i : Int) < (A.length : Int)) = true := decide_eq_true (by omega)
    have hm := hmem _ (List.getElem_mem hc)
    repeat (refine W.seq ?_)
    refine W.region 33 34 (by decide) rfl rfl ?_
    refine RW.opd rfl rfl (LO.lss rfl rfl rfl) ?_
    refine RW.nil ?_
    repeat (refine W.seq ?_)
    refine W.cond_t rfl (by first | rfl | assumption) ?_
    refine W.skip ?_
    repeat (refine W.seq ?_)
    refine W.block ?_
    repeat (refine W.seq ?_)
    refine W.region 38 42 (by decide) rfl rfl ?_
    refine RW.opd rfl rfl (LO.indexAddr_isl rfl rfl rfl rfl rfl ty28 ty76 ?_) ?_; (· (first | omega | decide | assumption | fail | (simp; done) | (simp; omega)))
    refine RW.opd rfl rfl (LO.load_imm_agg rfl rfl ty76 rfl (mems_tk hc)) ?_
    refine RW.opd rfl rfl (LO.alloc rfl ty76) ?_
    refine RW.opn rfl rfl (LO.store rfl rfl rfl rfl rfl ty76 rfl (by decide) (Sp.lit rfl)) ?_
    refine RW.nil ?_
    generalize A[i] = m at *
    have hnp := hm.np
    have w1 := within_yes (n := (m.ports.length : Int)) (l := 1) (h := 4) (by omega) (by omega)
    have hps := hm.ports
    repeat (refine W.seq ?_)
    refine W.region 46 51 (by decide) rfl rfl ?_
    refine RW.opd rfl rfl (LO.fieldAddr rfl rfl ty76 rfl (by decide)) ?_
    refine RW.opd rfl rfl (LO.load rfl rfl rfl rfl ty74 rfl) ?_
    refine RW.opd rfl rfl (LO.len_isl rfl rfl rfl ty74) ?_
    refine RW.opd rfl rfl (LO.call0 (fr := []) rfl rfl (w1) fok72 (.cons rfl (.pure rfl) (.cons rfl (.pure rfl) (.cons rfl (.pure rfl) .nil))) rfl) ?_
    refine RW.opd rfl rfl (LO.not rfl rfl) ?_
    refine RW.nil ?_
    repeat (refine W.seq ?_)
    refine W.cond_f rfl (by first | rfl | assumption) ?_
    refine W.skip ?_
    repeat (refine W.seq ?_)
    refine W.region 60 64 (by decide) rfl rfl ?_
    refine RW.opd rfl rfl (LO.fieldAddr rfl rfl ty76 rfl (by decide)) ?_
    refine RW.opd rfl rfl (LO.load rfl rfl rfl rfl ty74 rfl) ?_
    refine RW.opd rfl rfl (LO.len_isl rfl rfl rfl ty74) ?_
    refine RW.opd rfl rfl (LO.move rfl rfl) ?_
    refine RW.nil ?_
    generalize m.ports = ps at *
    repeat (refine W.seq ?_)
    refine W.block ?_
    refine W.rename [] 0 (T' := up (up (up (up (up (up mt 18 (some (.isl (memsC A) A.length))) 19 (some (.base (.int .i64 (A.length : Int))))) 20 (some (.base (.int .i64 (i : Int))))) 30 (some (.isl (prtsC ps) ps.length))) 31 (some (.base (.int .i64 (ps.length : Int))))) 32 (some (.base (.int .i64 (0 : Int))))) (H' := mt) (by decide) ?_ ?_ ?_
    · (repeat' (first | exact all_mt | refine all_up ?_ ?_)) <;> first | exact .inl ⟨rfl, rfl⟩ | exact .inr ⟨rfl, fun _ h => by cases h⟩ | exact .inl ⟨rfl, by first | rfl | assumption ⟩
    · (repeat' (first | exact all_mt | refine all_up ?_ ?_)) <;> first | exact ⟨rfl, _, rfl, .inr ⟨rfl, rfl⟩⟩ | exact ⟨rfl, _, rfl, .inl rfl⟩ | exact ⟨rfl, _, rfl, .inr ⟨rfl, by first | rfl | assumption ⟩⟩
    refine W.loop_ind (α := Nat) (fun x => ps.length - x) 0 (fun x => up (up (up (up (up (up mt 18 (some (.isl (memsC A) A.length))) 19 (some (.base (.int .i64 (A.length : Int))))) 20 (some (.base (.int .i64 (i : Int))))) 30 (some (.isl (prtsC ps) ps.length))) 31 (some (.base (.int .i64 (ps.length : Int))))) 32 (some (.base (.int .i64 (x : Int))))) (fun x => mt) (fun x => x ≤ ps.length) 0 (show 0 ≤ ps.length from Nat.zero_le _) ?_
    rintro j hIB ihB
    try (dsimp only at hIB)
    try dsimp only
    by_cases hc2 : j < ps.length
    · have g2 : decide ((j : Int) < (ps.length : Int)) = true := decide_eq_true (by omega)
      have hp := (hps _ (List.getElem_mem hc2)).nm
      repeat (refine W.seq ?_)
      refine W.region 68 69 (by decide) rfl rfl ?_
      refine RW.opd rfl rfl (LO.lss rfl rfl rfl) ?_
      refine RW.nil ?_
      repeat (refine W.seq ?_)
      refine W.cond_t rfl (by first | rfl | assumption) ?_
      refine W.skip ?_
      repeat (refine W.seq ?_)
      refine W.block ?_
      repeat (refine W.seq ?_)
      refine W.region 73 77 (by decide) rfl rfl ?_
      refine RW.opd rfl rfl (LO.indexAddr_isl rfl rfl rfl rfl rfl ty74 ty83 ?_) ?_; (· (first | omega | decide | assumption | fail | (simp; done) | (simp; omega)))
      refine RW.opd rfl rfl (LO.load_imm_agg rfl rfl ty83 rfl (prts_tk hc2)) ?_
      refine RW.opd rfl rfl (LO.alloc rfl ty83) ?_
      refine RW.opn rfl rfl (LO.store rfl rfl rfl rfl rfl ty83 rfl (by decide) (Sp.lit rfl)) ?_
      refine RW.nil ?_
      generalize ps[j] = p at *
      have w2 := within_yes (n := (p.macs.length : Int)) (l := 1) (h := 2) (by omega) (by omega)
      repeat (refine W.seq ?_)
      refine W.region 81 86 (by decide) rfl rfl ?_
      refine RW.opd rfl rfl (LO.fieldAddr rfl rfl ty83 rfl (by decide)) ?_
      refine RW.opd rfl rfl (LO.load rfl rfl rfl rfl ty40 rfl) ?_
      refine RW.opd rfl rfl (LO.len_isl rfl rfl rfl ty40) ?_
      refine RW.opd rfl rfl (LO.call0 (fr := []) rfl rfl (w2) fok72 (.cons rfl (.pure rfl) (.cons rfl (.pure rfl) (.cons rfl (.pure rfl) .nil))) rfl) ?_
      refine RW.opd rfl rfl (LO.not rfl rfl) ?_
      refine RW.nil ?_
      repeat (refine W.seq ?_)
      refine W.cond_f rfl (by first | rfl | assumption) ?_
      refine W.skip ?_
      repeat (refine W.seq ?_)
      refine W.region 95 97 (by decide) rfl rfl ?_
      refine RW.opd rfl rfl (LO.add_in rfl rfl rfl ?_) ?_; (· (first | exact IntWalk.i64_in _ (by omega) | assumption))
      refine RW.opd rfl rfl (LO.move rfl rfl) ?_
      refine RW.nil ?_
      refine WL.rename [] 0 (by decide) ?_ ?_ (ihB (j + 1) (show ps.length - (j + 1) < ps.length - j from by omega) (show (j + 1) ≤ ps.length from by omega))
      · (repeat' (first | exact all_mt | refine all_up ?_ ?_)) <;> first | exact .inl ⟨rfl, rfl⟩ | exact .inr ⟨rfl, fun _ h => by cases h⟩ | exact .inl ⟨rfl, by first | rfl | assumption ⟩
      · (repeat' (first | exact all_mt | refine all_up ?_ ?_)) <;> first | exact ⟨rfl, _, rfl, .inr ⟨rfl, rfl⟩⟩ | exact ⟨rfl, _, rfl, .inl rfl⟩ | exact ⟨rfl, _, rfl, .inr ⟨rfl, by first | rfl | assumption ⟩⟩
    · have g2 : decide ((j : Int) < (ps.length : Int)) = false := decide_eq_false (by omega)
      repeat (refine W.seq ?_)
      refine W.region 68 69 (by decide) rfl rfl ?_
      refine RW.opd rfl rfl (LO.lss rfl rfl rfl) ?_
      refine RW.nil ?_
      repeat (refine W.seq ?_)
      refine W.cond_f rfl (by first | rfl | assumption) ?_
      refine W.exit ?_
      clear ihB
      repeat (refine W.seq ?_)
      refine W.region 101 103 (by decide) rfl rfl ?_
      refine RW.opd rfl rfl (LO.add_in rfl rfl rfl ?_) ?_; (· (first | exact IntWalk.i64_in _ (by omega) | assumption))
      refine RW.opd rfl rfl (LO.move rfl rfl) ?_
      refine RW.nil ?_
      refine WL.rename [] 0 (by decide) ?_ ?_ (ihA (i + 1) (show A.length - (i + 1) < A.length - i from by omega) (show (i + 1) ≤ A.length from by omega))
      · (repeat' (first | exact all_mt | refine all_up ?_ ?_)) <;> first | exact .inl ⟨rfl, rfl⟩ | exact .inr ⟨rfl, fun _ h => by cases h⟩ | exact .inl ⟨rfl, by first | rfl | assumption ⟩
      · (repeat' (first | exact all_mt | refine all_up ?_ ?_)) <;> first | exact ⟨rfl, _, rfl, .inr ⟨rfl, rfl⟩⟩ | exact ⟨rfl, _, rfl, .inl rfl⟩ | exact ⟨rfl, _, rfl, .inr ⟨rfl, by first | rfl | assumption ⟩⟩
  · have g1 : decide ((i : Int) < (A.length : Int)) = false := decide_eq_false (by omega)
    repeat (refine W.seq ?_)
    refine W.region 33 34 (by decide) rfl rfl ?_
    refine RW.opd rfl rfl (LO.lss rfl rfl rfl) ?_
    refine RW.nil ?_
    repeat (refine W.seq ?_)
    refine W.cond_f rfl (by first | rfl | assumption) ?_
    refine W.exit ?_
    repeat (refine W.seq ?_)
    refine W.region 107 108 (by decide) rfl rfl ?_
    refine RW.opd rfl rfl (LO.assign rfl rfl) ?_
    refine RW.nil ?_
    repeat (refine W.seq ?_)
    refine W.ret ⟨.inl rfl, _, mt, RVs.cons (RV.tmp rfl) (RVs.nil), all_mt, ?_⟩
    exact ⟨rfl, rfl⟩
theorem lan4V : AFn Tryd.prog 73 0 [.agg (preC lan4)] mt (.base (.bool true)) mt := by
  have := pvalidX_any lan4 24 rfl (by decide) (by unfold U64; decide) (by unfold U64; decide) (by decide)
  rwa [lan_ok.1] at this
theorem lan6V : AFn Tryd.prog 73 0 [.agg (preC lan6)] mt (.base (.bool true)) mt := by
  have := pvalidX_any lan6 64 rfl (by decide) (by unfold U64; decide) (by unfold U64; decide) (by decide)
  rwa [lan_ok.2] at this
set_option maxHeartbeats 2000000 in
theorem wrong_any (d : Db) (hd : DbOk d) : AFn Tryd.prog 44 0 [.agg (dbC d)] mt (.base (.bool false)) mt := by
  refine AFn.eq Tryd.func44 rfl rfl (Nat.le_of_ble_eq_true rfl) ?_
  have h4 := hd.ns
  have h32 := hd.nm
  have hmem := hd.mem
  have e4 := hd.l4
  have e6 := hd.l6
  have hall := all_any d (by omega) (by omega)
  obtain ⟨A, hA⟩ : ∃ A, A = d.servers ++ d.members := ⟨_, rfl⟩
  rw [← hA] at hall hmem
  have hAl : A.length ≤ 2000 := by rw [hA, List.length_append]; omega
  clear hd hA
  obtain ⟨l4, l6, sv, mb⟩ := d
  dsimp only at e4 e6
  subst e4 e6
  have v4 := lan4V
  have v6 := lan6V
  have w4 := within_yes (n := 24) (l := 8) (h := 30) (by decide) (by decide)
  have w6 := within_yes (n := 64) (l := 32) (h := 64) (by decide) (by decide)
  repeat (refine W.seq ?_)
  refine W.region 0 2 (by decide) rfl rfl ?_
  refine RW.opd rfl rfl (LO.box rfl rfl rfl) ?_
  refine RW.opd rfl rfl (LO.assign rfl rfl) ?_
  refine RW.nil ?_
  repeat (refine W.seq ?_)
  refine W.region 6 43 (by decide) rfl rfl ?_
  refine RW.opd rfl rfl (LO.fieldAddr rfl rfl ty30 rfl (by decide)) ?_
  refine RW.opd rfl rfl (LO.load_agg rfl rfl rfl ty27 rfl (Tk.lit rfl)) ?_
  refine RW.opd rfl rfl (LO.call0 (fr := []) rfl rfl (v4) fok73 (.cons rfl (.pure rfl) .nil) rfl) ?_
  refine RW.opd rfl rfl (LO.not rfl rfl) ?_
  refine RW.opd rfl rfl (LO.move rfl rfl) ?_
  refine RW.gd rfl rfl rfl ?_ rfl (LO.fieldAddr rfl rfl ty30 rfl (by decide)) ?_; (· (first | rfl | assumption))
  refine RW.gd rfl rfl rfl ?_ rfl (LO.fieldAddr rfl rfl ty27 rfl (by decide)) ?_; (· (first | rfl | assumption))
  refine RW.gd rfl rfl rfl ?_ rfl (LO.fieldAddr rfl rfl ty25 rfl (by decide)) ?_; (· (first | rfl | assumption))
  refine RW.gd rfl rfl rfl ?_ rfl (LO.load rfl rfl rfl rfl ty4 rfl) ?_; (· (first | rfl | assumption))
  refine RW.opd rfl rfl (LO.pick_f rfl rfl ?_ rfl) ?_; (· (first | rfl | assumption))
  refine RW.opd rfl rfl (LO.move rfl rfl) ?_
  refine RW.gd rfl rfl rfl ?_ rfl (LO.fieldAddr rfl rfl ty30 rfl (by decide)) ?_; (· (first | rfl | assumption))
  refine RW.gd rfl rfl rfl ?_ rfl (LO.fieldAddr rfl rfl ty27 rfl (by decide)) ?_; (· (first | rfl | assumption))
  refine RW.gd rfl rfl rfl ?_ rfl (LO.load rfl rfl rfl rfl ty3 rfl) ?_; (· (first | rfl | assumption))
  refine RW.gd rfl rfl rfl ?_ rfl (LO.call0 (fr := []) rfl rfl (w4) fok72 (.cons rfl (.pure rfl) (.cons rfl (.pure rfl) (.cons rfl (.pure rfl) .nil))) rfl) ?_; (· (first | rfl | assumption))
  refine RW.gd rfl rfl rfl ?_ rfl (LO.not rfl rfl) ?_; (· (first | rfl | assumption))
  refine RW.opd rfl rfl (LO.pick_f rfl rfl ?_ rfl) ?_; (· (first | rfl | assumption))
  refine RW.opd rfl rfl (LO.move rfl rfl) ?_
  refine RW.gd rfl rfl rfl ?_ rfl (LO.fieldAddr rfl rfl ty30 rfl (by decide)) ?_; (· (first | rfl | assumption))
  refine RW.gd rfl rfl rfl ?_ rfl (LO.load_agg rfl rfl rfl ty27 rfl (Tk.lit rfl)) ?_; (· (first | rfl | assumption))
  refine RW.gd rfl rfl rfl ?_ rfl (LO.call0 (fr := []) rfl rfl (v6) fok73 (.cons rfl (.pure rfl) .nil) rfl) ?_; (· (first | rfl | assumption))
  refine RW.gd rfl rfl rfl ?_ rfl (LO.not rfl rfl) ?_; (· (first | rfl | assumption))
  refine RW.opd rfl rfl (LO.pick_f rfl rfl ?_ rfl) ?_; (· (first | rfl | assumption))
  refine RW.opd rfl rfl (LO.move rfl rfl) ?_
  refine RW.gd rfl rfl rfl ?_ rfl (LO.fieldAddr rfl rfl ty30 rfl (by decide)) ?_; (· (first | rfl | assumption))
  refine RW.gd rfl rfl rfl ?_ rfl (LO.fieldAddr rfl rfl ty27 rfl (by decide)) ?_; (· (first | rfl | assumption))
  refine RW.gd rfl rfl rfl ?_ rfl (LO.fieldAddr rfl rfl ty25 rfl (by decide)) ?_; (· (first | rfl | assumption))
  refine RW.gd rfl rfl rfl ?_ rfl (LO.load rfl rfl rfl rfl ty4 rfl) ?_; (· (first | rfl | assumption))
  refine RW.gd rfl rfl rfl ?_ rfl (LO.not rfl rfl) ?_; (· (first | rfl | assumption))
  refine RW.opd rfl rfl (LO.pick_f rfl rfl ?_ rfl) ?_; (· (first | rfl | assumption))
  refine RW.opd rfl rfl (LO.move rfl rfl) ?_
  refine RW.gd rfl rfl rfl ?_ rfl (LO.fieldAddr rfl rfl ty30 rfl (by decide)) ?_; (· (first | rfl | assumption))
  refine RW.gd rfl rfl rfl ?_ rfl (LO.fieldAddr rfl rfl ty27 rfl (by decide)) ?_; (· (first | rfl | assumption))
  refine RW.gd rfl rfl rfl ?_ rfl (LO.load rfl rfl rfl rfl ty3 rfl) ?_; (· (first | rfl | assumption))
  refine RW.gd rfl rfl rfl ?_ rfl (LO.call0 (fr := []) rfl rfl (w6) fok72 (.cons rfl (.pure rfl) (.cons rfl (.pure rfl) (.cons rfl (.pure rfl) .nil))) rfl) ?_; (· (first | rfl | assumption))
  refine RW.gd rfl rfl rfl ?_ rfl (LO.not rfl rfl) ?_; (· (first | rfl | assumption))
  refine RW.opd rfl rfl (LO.pick_f rfl rfl ?_ rfl) ?_; (· (first | rfl | assumption))
  refine RW.nil ?_
  repeat (refine W.seq ?_)
  refine W.cond_f rfl (by first | rfl | assumption) ?_
  refine W.skip ?_
  repeat (refine W.seq ?_)
  refine W.region 52 56 (by decide) rfl rfl ?_
  refine RW.opd rfl rfl (LO.load_agg rfl rfl rfl ty30 rfl (Tk.lit rfl)) ?_
  refine RW.opd rfl rfl (LO.call0 (fr := []) rfl rfl (hall) fok47 (.cons rfl (.pure rfl) .nil) rfl) ?_
  refine RW.opd rfl rfl (LO.len_isl rfl rfl rfl ty28) ?_
  refine RW.opd rfl rfl (LO.move rfl rfl) ?_
  refine RW.nil ?_
  repeat (refine W.seq ?_)
  refine W.block ?_
  refine W.rename [] 0 (T' := up (up (up mt 45 (some (.isl (memsC A) A.length))) 46 (some (.base (.int .i64 (A.length : Int))))) 47 (some (.base (.int .i64 (0 : Int))))) (H' := mt) (by decide) ?_ ?_ ?_
  · (repeat' (first | exact all_mt | refine all_up ?_ ?_)) <;> first | exact .inl ⟨rfl, rfl⟩ | exact .inr ⟨rfl, fun _ h => by cases h⟩ | exact .inl ⟨rfl, by first | rfl | assumption ⟩
  · (repeat' (first | exact all_mt | refine all_up ?_ ?_)) <;> first | exact ⟨rfl, _, rfl, .inr ⟨rfl, rfl⟩⟩ | exact ⟨rfl, _, rfl, .inl rfl⟩ | exact ⟨rfl, _, rfl, .inr ⟨rfl, by first | rfl | assumption ⟩⟩
  refine W.loop_ind (α := Nat) (fun x => A.length - x) 0 (fun x => up (up (up mt 45 (some (.isl (memsC A) A.length))) 46 (some (.base (.int .i64 (A.length : Int))))) 47 (some (.base (.int .i64 (x : Int))))) (fun x => mt) (fun x => x ≤ A.length) 0 (show 0 ≤ A.length from Nat.zero_le _) ?_
  rintro i hIA ihA
  try (dsimp only at hIA)
  try dsimp only
  by_cases hc : i < A.length
  · have g1 : decide ((i : Int) < (A.length : Int)) = true := decide_eq_true (by omega)
    have hm := hmem _ (List.getElem_mem hc)
    repeat (refine W.seq ?_)
    refine W.region 60 61 (by decide) rfl rfl ?_
    refine RW.opd rfl rfl (LO.lss rfl rfl rfl) ?_
    refine RW.nil ?_
    repeat (refine W.seq ?_)
    refine W.cond_t rfl (by first | rfl | assumption) ?_
    refine W.skip ?_
    repeat (refine W.seq ?_)
    refine W.block ?_
    repeat (refine W.seq ?_)
    refine W.region 65 69 (by decide) rfl rfl ?_
    refine RW.opd rfl rfl (LO.indexAddr_isl rfl rfl rfl rfl rfl ty28 ty76 ?_) ?_; (· (first | omega | decide | assumption | fail | (simp; done) | (simp; omega)))
    refine RW.opd rfl rfl (LO.load_imm_agg rfl rfl ty76 rfl (mems_tk hc)) ?_
    refine RW.opd rfl rfl (LO.alloc rfl ty76) ?_
    refine RW.opn rfl rfl (LO.store rfl rfl rfl rfl rfl ty76 rfl (by decide) (Sp.lit rfl)) ?_
    refine RW.nil ?_
    generalize A[i] = m at *
    have hnp := hm.np
    have w1 := within_yes hm.asn.1 hm.asn.2
    have w2 := within_yes hm.max4.1 hm.max4.2
    have w3 := within_yes hm.max6.1 hm.max6.2
    have hps := hm.ports
    have hna := name_any _ hm.name
    refine W.seq ?_
    refine W.joinK (α := Unit) 1 (fun x => [(4, .own 0 0)]) (fun x => up mt 0 (some (memC m))) (fun x => True) (.cons (t := 45) rfl (by first | exact .inl rfl | exact .inr ⟨rfl, fun _ h => by cases h⟩ | (exact .inl (by assumption)) ) (.cons (t := 46) rfl (by first | exact .inl rfl | exact .inr ⟨rfl, fun _ h => by cases h⟩ | (exact .inl (by assumption)) ) (.cons (t := 47) rfl (by first | exact .inl rfl | exact .inr ⟨rfl, fun _ h => by cases h⟩ | (exact .inl (by assumption)) ) .nil))) ?_ ?_
    rotate_left
    rintro q hIJ
    try (dsimp only at hIJ)
    try dsimp only [joinT, baseT, List.cons_append, List.nil_append]
    rotate_right
    ·
      obtain ⟨asn, name, set, x4, x6, ps⟩ := m
      rcases hm.set with e | e | e
      all_goals
        dsimp only at e
        subst e
      ·
        have k1 : (!(emptyS.toList == (⟨#[]⟩ : ByteArray).toList)) = false := by decide +kernel
        have k2 : (emptyS.toList == (⟨#[45]⟩ : ByteArray).toList) = false := by decide +kernel
        repeat (refine W.seq ?_)
        refine W.region 73 111 (by decide) rfl rfl ?_
        refine RW.opd rfl rfl (LO.fieldAddr rfl rfl ty76 rfl (by decide)) ?_
        refine RW.opd rfl rfl (LO.load rfl rfl rfl rfl ty3 rfl) ?_
        refine RW.opd rfl rfl (LO.call0 (fr := []) rfl rfl (w1) fok72 (.cons rfl (.pure rfl) (.cons rfl (.pure rfl) (.cons rfl (.pure rfl) .nil))) rfl) ?_
        refine RW.opd rfl rfl (LO.not rfl rfl) ?_
        refine RW.opd rfl rfl (LO.move rfl rfl) ?_
        refine RW.gd rfl rfl rfl ?_ rfl (LO.fieldAddr rfl rfl ty76 rfl (by decide)) ?_; (· (first | rfl | assumption))
        refine RW.gd rfl rfl rfl ?_ rfl (LO.load rfl rfl rfl rfl ty9 rfl) ?_; (· (first | rfl | assumption))
        refine RW.gd rfl rfl rfl ?_ rfl (LO.call0 (fr := []) rfl rfl (hna) fok74 (.cons rfl (.pure rfl) .nil) rfl) ?_; (· (first | rfl | assumption))
        refine RW.gd rfl rfl rfl ?_ rfl (LO.not rfl rfl) ?_; (· (first | rfl | assumption))
        refine RW.opd rfl rfl (LO.pick_f rfl rfl ?_ rfl) ?_; (· (first | rfl | assumption))
        refine RW.opd rfl rfl (LO.move rfl rfl) ?_
        refine RW.gd rfl rfl rfl ?_ rfl (LO.fieldAddr rfl rfl ty76 rfl (by decide)) ?_; (· (first | rfl | assumption))
        refine RW.gd rfl rfl rfl ?_ rfl (LO.load rfl rfl rfl rfl ty9 rfl) ?_; (· (first | rfl | assumption))
        refine RW.gd rfl rfl rfl ?_ rfl (LO.neq_str rfl rfl rfl) ?_; (· (first | rfl | assumption))
        refine RW.gd rfl rfl rfl ?_ rfl (LO.move rfl rfl) ?_; (· (first | rfl | assumption))
        refine RW.sd rfl rfl rfl ?_ rfl ?_; (· (first | rfl | assumption))
        refine RW.sd rfl rfl rfl ?_ rfl ?_; (· (first | rfl | assumption))
        refine RW.sd rfl rfl rfl ?_ rfl ?_; (· (first | rfl | assumption))
        refine RW.sd rfl rfl rfl ?_ rfl ?_; (· (first | rfl | assumption))
        refine RW.gd rfl rfl rfl ?_ rfl (LO.pick_f rfl rfl ?_ rfl) ?_; (· (first | rfl | assumption)); (· (first | rfl | assumption))
        refine RW.opd rfl rfl (LO.pick_f rfl rfl ?_ rfl) ?_; (· (first | rfl | assumption))
        refine RW.opd rfl rfl (LO.move rfl rfl) ?_
        refine RW.gd rfl rfl rfl ?_ rfl (LO.fieldAddr rfl rfl ty76 rfl (by decide)) ?_; (· (first | rfl | assumption))
        refine RW.gd rfl rfl rfl ?_ rfl (LO.load rfl rfl rfl rfl ty9 rfl) ?_; (· (first | rfl | assumption))
        refine RW.gd rfl rfl rfl ?_ rfl (LO.eql_str rfl rfl rfl) ?_; (· (first | rfl | assumption))
        refine RW.opd rfl rfl (LO.pick_f rfl rfl ?_ rfl) ?_; (· (first | rfl | assumption))
        refine RW.opd rfl rfl (LO.move rfl rfl) ?_
        refine RW.gd rfl rfl rfl ?_ rfl (LO.fieldAddr rfl rfl ty76 rfl (by decide)) ?_; (· (first | rfl | assumption))
        refine RW.gd rfl rfl rfl ?_ rfl (LO.load rfl rfl rfl rfl ty3 rfl) ?_; (· (first | rfl | assumption))
        refine RW.gd rfl rfl rfl ?_ rfl (LO.call0 (fr := []) rfl rfl (w2) fok72 (.cons rfl (.pure rfl) (.cons rfl (.pure rfl) (.cons rfl (.pure rfl) .nil))) rfl) ?_; (· (first | rfl | assumption))
        refine RW.gd rfl rfl rfl ?_ rfl (LO.not rfl rfl) ?_; (· (first | rfl | assumption))
        refine RW.opd rfl rfl (LO.pick_f rfl rfl ?_ rfl) ?_; (· (first | rfl | assumption))
        refine RW.opd rfl rfl (LO.move rfl rfl) ?_
        refine RW.gd rfl rfl rfl ?_ rfl (LO.fieldAddr rfl rfl ty76 rfl (by decide)) ?_; (· (first | rfl | assumption))
        refine RW.gd rfl rfl rfl ?_ rfl (LO.load rfl rfl rfl rfl ty3 rfl) ?_; (· (first | rfl | assumption))
        refine RW.gd rfl rfl rfl ?_ rfl (LO.call0 (fr := []) rfl rfl (w3) fok72 (.cons rfl (.pure rfl) (.cons rfl (.pure rfl) (.cons rfl (.pure rfl) .nil))) rfl) ?_; (· (first | rfl | assumption))
        refine RW.gd rfl rfl rfl ?_ rfl (LO.not rfl rfl) ?_; (· (first | rfl | assumption))
        refine RW.opd rfl rfl (LO.pick_f rfl rfl ?_ rfl) ?_; (· (first | rfl | assumption))
        refine RW.nil ?_
        repeat (refine W.seq ?_)
        refine W.cond_f rfl (by first | rfl | assumption) ?_
        refine W.skip ?_
        intro yJ KJ hJ
        refine W.renameJ [(0, 67)] 1 (by decide) ?_ ?_ (hJ (()) (show True from trivial))
        · (repeat' (first | exact LookR.nil | refine LookR.cons ?_ ?_)) <;> first | exact .inl ⟨rfl, rfl⟩ | exact .inr ⟨rfl, fun _ h => by cases h⟩ | exact .inl ⟨rfl, by first | rfl | assumption ⟩
        · (repeat' (first | exact all_mt | refine all_up ?_ ?_)) <;> first | exact ⟨rfl, _, rfl, .inr ⟨rfl, rfl⟩⟩ | exact ⟨rfl, _, rfl, .inl rfl⟩ | exact ⟨rfl, _, rfl, .inr ⟨rfl, by first | rfl | assumption ⟩⟩
      ·
        have hset := name_any _ asA_ok
        have k1 : (!(asA.toList == (⟨#[]⟩ : ByteArray).toList)) = true := by decide +kernel
        have k2 : (asA.toList == (⟨#[45]⟩ : ByteArray).toList) = false := by decide +kernel
        repeat (refine W.seq ?_)
        refine W.region 73 111 (by decide) rfl rfl ?_
        refine RW.opd rfl rfl (LO.fieldAddr rfl rfl ty76 rfl (by decide)) ?_
        refine RW.opd rfl rfl (LO.load rfl rfl rfl rfl ty3 rfl) ?_
        refine RW.opd rfl rfl (LO.call0 (fr := []) rfl rfl (w1) fok72 (.cons rfl (.pure rfl) (.cons rfl (.pure rfl) (.cons rfl (.pure rfl) .nil))) rfl) ?_
        refine RW.opd rfl rfl (LO.not rfl rfl) ?_
        refine RW.opd rfl rfl (LO.move rfl rfl) ?_
        refine RW.gd rfl rfl rfl ?_ rfl (LO.fieldAddr rfl rfl ty76 rfl (by decide)) ?_; (· (first | rfl | assumption))
        refine RW.gd rfl rfl rfl ?_ rfl (LO.load rfl rfl rfl rfl ty9 rfl) ?_; (· (first | rfl | assumption))
        refine RW.gd rfl rfl rfl ?_ rfl (LO.call0 (fr := []) rfl rfl (hna) fok74 (.cons rfl (.pure rfl) .nil) rfl) ?_; (· (first | rfl | assumption))
        refine RW.gd rfl rfl rfl ?_ rfl (LO.not rfl rfl) ?_; (· (first | rfl | assumption))
        refine RW.opd rfl rfl (LO.pick_f rfl rfl ?_ rfl) ?_; (· (first | rfl | assumption))
        refine RW.opd rfl rfl (LO.move rfl rfl) ?_
        refine RW.gd rfl rfl rfl ?_ rfl (LO.fieldAddr rfl rfl ty76 rfl (by decide)) ?_; (· (first | rfl | assumption))
        refine RW.gd rfl rfl rfl ?_ rfl (LO.load rfl rfl rfl rfl ty9 rfl) ?_; (· (first | rfl | assumption))
        refine RW.gd rfl rfl rfl ?_ rfl (LO.neq_str rfl rfl rfl) ?_; (· (first | rfl | assumption))
        refine RW.gd rfl rfl rfl ?_ rfl (LO.move rfl rfl) ?_; (· (first | rfl | assumption))
        refine RW.gd rfl rfl rfl ?_ rfl (LO.fieldAddr rfl rfl ty76 rfl (by decide)) ?_; (· (first | rfl | assumption))
        refine RW.gd rfl rfl rfl ?_ rfl (LO.load rfl rfl rfl rfl ty9 rfl) ?_; (· (first | rfl | assumption))
        refine RW.gd rfl rfl rfl ?_ rfl (LO.call0 (fr := []) rfl rfl (hset) fok74 (.cons rfl (.pure rfl) .nil) rfl) ?_; (· (first | rfl | assumption))
        refine RW.gd rfl rfl rfl ?_ rfl (LO.not rfl rfl) ?_; (· (first | rfl | assumption))
        refine RW.gd rfl rfl rfl ?_ rfl (LO.pick_t rfl rfl ?_ rfl) ?_; (· (first | rfl | assumption)); (· (first | rfl | assumption))
        refine RW.opd rfl rfl (LO.pick_f rfl rfl ?_ rfl) ?_; (· (first | rfl | assumption))
        refine RW.opd rfl rfl (LO.move rfl rfl) ?_
        refine RW.gd rfl rfl rfl ?_ rfl (LO.fieldAddr rfl rfl ty76 rfl (by decide)) ?_; (· (first | rfl | assumption))
        refine RW.gd rfl rfl rfl ?_ rfl (LO.load rfl rfl rfl rfl ty9 rfl) ?_; (· (first | rfl | assumption))
        refine RW.gd rfl rfl rfl ?_ rfl (LO.eql_str rfl rfl rfl) ?_; (· (first | rfl | assumption))
        refine RW.opd rfl rfl (LO.pick_f rfl rfl ?_ rfl) ?_; (· (first | rfl | assumption))
        refine RW.opd rfl rfl (LO.move rfl rfl) ?_
        refine RW.gd rfl rfl rfl ?_ rfl (LO.fieldAddr rfl rfl ty76 rfl (by decide)) ?_; (· (first | rfl | assumption))
        refine RW.gd rfl rfl rfl ?_ rfl (LO.load rfl rfl rfl rfl ty3 rfl) ?_; (· (first | rfl | assumption))
        refine RW.gd rfl rfl rfl ?_ rfl (LO.call0 (fr := []) rfl rfl (w2) fok72 (.cons rfl (.pure rfl) (.cons rfl (.pure rfl) (.cons rfl (.pure rfl) .nil))) rfl) ?_; (· (first | rfl | assumption))
        refine RW.gd rfl rfl rfl ?_ rfl (LO.not rfl rfl) ?_; (· (first | rfl | assumption))
        refine RW.opd rfl rfl (LO.pick_f rfl rfl ?_ rfl) ?_; (· (first | rfl | assumption))
        refine RW.opd rfl rfl (LO.move rfl rfl) ?_
        refine RW.gd rfl rfl rfl ?_ rfl (LO.fieldAddr rfl rfl ty76 rfl (by decide)) ?_; (· (first | rfl | assumption))
        refine RW.gd rfl rfl rfl ?_ rfl (LO.load rfl rfl rfl rfl ty3 rfl) ?_; (· (first | rfl | assumption))
        refine RW.gd rfl rfl rfl ?_ rfl (LO.call0 (fr := []) rfl rfl (w3) fok72 (.cons rfl (.pure rfl) (.cons rfl (.pure rfl) (.cons rfl (.pure rfl) .nil))) rfl) ?_; (· (first | rfl | assumption))
        refine RW.gd rfl rfl rfl ?_ rfl (LO.not rfl rfl) ?_; (· (first | rfl | assumption))
        refine RW.opd rfl rfl (LO.pick_f rfl rfl ?_ rfl) ?_; (· (first | rfl | assumption))
        refine RW.nil ?_
        repeat (refine W.seq ?_)
        refine W.cond_f rfl (by first | rfl | assumption) ?_
        refine W.skip ?_
        intro yJ KJ hJ
        refine W.renameJ [(0, 67)] 1 (by decide) ?_ ?_ (hJ (()) (show True from trivial))
        · (repeat' (first | exact LookR.nil | refine LookR.cons ?_ ?_)) <;> first | exact .inl ⟨rfl, rfl⟩ | exact .inr ⟨rfl, fun _ h => by cases h⟩ | exact .inl ⟨rfl, by first | rfl | assumption ⟩
        · (repeat' (first | exact all_mt | refine all_up ?_ ?_)) <;> first | exact ⟨rfl, _, rfl, .inr ⟨rfl, rfl⟩⟩ | exact ⟨rfl, _, rfl, .inl rfl⟩ | exact ⟨rfl, _, rfl, .inr ⟨rfl, by first | rfl | assumption ⟩⟩
      ·
        have hset := name_any _ asB_ok
        have k1 : (!(asB.toList == (⟨#[]⟩ : ByteArray).toList)) = true := by decide +kernel
        have k2 : (asB.toList == (⟨#[45]⟩ : ByteArray).toList) = false := by decide +kernel
        repeat (refine W.seq ?_)
        refine W.region 73 111 (by decide) rfl rfl ?_
        refine RW.opd rfl rfl (LO.fieldAddr rfl rfl ty76 rfl (by decide)) ?_
        refine RW.opd rfl rfl (LO.load rfl rfl rfl rfl ty3 rfl) ?_
        refine RW.opd rfl rfl (LO.call0 (fr := []) rfl rfl (w1) fok72 (.cons rfl (.pure rfl) (.cons rfl (.pure rfl) (.cons rfl (.pure rfl) .nil))) rfl) ?_
        refine RW.opd rfl rfl (LO.not rfl rfl) ?_
        refine RW.opd rfl rfl (LO.move rfl rfl) ?_
        refine RW.gd rfl rfl rfl ?_ rfl (LO.fieldAddr rfl rfl ty76 rfl (by decide)) ?_; (· (first | rfl | assumption))
        refine RW.gd rfl rfl rfl ?_ rfl (LO.load rfl rfl rfl rfl ty9 rfl) ?_; (· (first | rfl | assumption))
        refine RW.gd rfl rfl rfl ?_ rfl (LO.call0 (fr := []) rfl rfl (hna) fok74 (.cons rfl (.pure rfl) .nil) rfl) ?_; (· (first | rfl | assumption))
        refine RW.gd rfl rfl rfl ?_ rfl (LO.not rfl rfl) ?_; (· (first | rfl | assumption))
        refine RW.opd rfl rfl (LO.pick_f rfl rfl ?_ rfl) ?_; (· (first | rfl | assumption))
        refine RW.opd rfl rfl (LO.move rfl rfl) ?_
        refine RW.gd rfl rfl rfl ?_ rfl (LO.fieldAddr rfl rfl ty76 rfl (by decide)) ?_; (· (first | rfl | assumption))
        refine RW.gd rfl rfl rfl ?_ rfl (LO.load rfl rfl rfl rfl ty9 rfl) ?_; (· (first | rfl | assumption))
        refine RW.gd rfl rfl rfl ?_ rfl (LO.neq_str rfl rfl rfl) ?_; (· (first | rfl | assumption))
        refine RW.gd rfl rfl rfl ?_ rfl (LO.move rfl rfl) ?_; (· (first | rfl | assumption))
        refine RW.gd rfl rfl rfl ?_ rfl (LO.fieldAddr rfl rfl ty76 rfl (by decide)) ?_; (· (first | rfl | assumption))
        refine RW.gd rfl rfl rfl ?_ rfl (LO.load rfl rfl rfl rfl ty9 rfl) ?_; (· (first | rfl | assumption))
        refine RW.gd rfl rfl rfl ?_ rfl (LO.call0 (fr := []) rfl rfl (hset) fok74 (.cons rfl (.pure rfl) .nil) rfl) ?_; (· (first | rfl | assumption))
        refine RW.gd rfl rfl rfl ?_ rfl (LO.not rfl rfl) ?_; (· (first | rfl | assumption))
        refine RW.gd rfl rfl rfl ?_ rfl (LO.pick_t rfl rfl ?_ rfl) ?_; (· (first | rfl | assumption)); (· (first | rfl | assumption))
        refine RW.opd rfl rfl (LO.pick_f rfl rfl ?_ rfl) ?_; (· (first | rfl | assumption))
        refine RW.opd rfl rfl (LO.move rfl rfl) ?_
        refine RW.gd rfl rfl rfl ?_ rfl (LO.fieldAddr rfl rfl ty76 rfl (by decide)) ?_; (· (first | rfl | assumption))
        refine RW.gd rfl rfl rfl ?_ rfl (LO.load rfl rfl rfl rfl ty9 rfl) ?_; (· (first | rfl | assumption))
        refine RW.gd rfl rfl rfl ?_ rfl (LO.eql_str rfl rfl rfl) ?_; (· (first | rfl | assumption))
        refine RW.opd rfl rfl (LO.pick_f rfl rfl ?_ rfl) ?_; (· (first | rfl | assumption))
        refine RW.opd rfl rfl (LO.move rfl rfl) ?_
        refine RW.gd rfl rfl rfl ?_ rfl (LO.fieldAddr rfl rfl ty76 rfl (by decide)) ?_; (· (first | rfl | assumption))
        refine RW.gd rfl rfl rfl ?_ rfl (LO.load rfl rfl rfl rfl ty3 rfl) ?_; (· (first | rfl | assumption))
        refine RW.gd rfl rfl rfl ?_ rfl (LO.call0 (fr := []) rfl rfl (w2) fok72 (.cons rfl (.pure rfl) (.cons rfl (.pure rfl) (.cons rfl (.pure rfl) .nil))) rfl) ?_; (· (first | rfl | assumption))
        refine RW.gd rfl rfl rfl ?_ rfl (LO.not rfl rfl) ?_; (· (first | rfl | assumption))
        refine RW.opd rfl rfl (LO.pick_f rfl rfl ?_ rfl) ?_; (· (first | rfl | assumption))
        refine RW.opd rfl rfl (LO.move rfl rfl) ?_
        refine RW.gd rfl rfl rfl ?_ rfl (LO.fieldAddr rfl rfl ty76 rfl (by decide)) ?_; (· (first | rfl | assumption))
        refine RW.gd rfl rfl rfl ?_ rfl (LO.load rfl rfl rfl rfl ty3 rfl) ?_; (· (first | rfl | assumption))
        refine RW.gd rfl rfl rfl ?_ rfl (LO.call0 (fr := []) rfl rfl (w3) fok72 (.cons rfl (.pure rfl) (.cons rfl (.pure rfl) (.cons rfl (.pure rfl) .nil))) rfl) ?_; (· (first | rfl | assumption))
        refine RW.gd rfl rfl rfl ?_ rfl (LO.not rfl rfl) ?_; (· (first | rfl | assumption))
        refine RW.opd rfl rfl (LO.pick_f rfl rfl ?_ rfl) ?_; (· (first | rfl | assumption))
        refine RW.nil ?_
        repeat (refine W.seq ?_)
        refine W.cond_f rfl (by first | rfl | assumption) ?_
        refine W.skip ?_
        intro yJ KJ hJ
        refine W.renameJ [(0, 67)] 1 (by decide) ?_ ?_ (hJ (()) (show True from trivial))
        · (repeat' (first | exact LookR.nil | refine LookR.cons ?_ ?_)) <;> first | exact .inl ⟨rfl, rfl⟩ | exact .inr ⟨rfl, fun _ h => by cases h⟩ | exact .inl ⟨rfl, by first | rfl | assumption ⟩
        · (repeat' (first | exact all_mt | refine all_up ?_ ?_)) <;> first | exact ⟨rfl, _, rfl, .inr ⟨rfl, rfl⟩⟩ | exact ⟨rfl, _, rfl, .inl rfl⟩ | exact ⟨rfl, _, rfl, .inr ⟨rfl, by first | rfl | assumption ⟩⟩
    repeat (refine W.seq ?_)
    refine W.region 120 124 (by decide) rfl rfl ?_
    refine RW.opd rfl rfl (LO.fieldAddr rfl rfl ty76 rfl (by decide)) ?_
    refine RW.opd rfl rfl (LO.load rfl rfl rfl rfl ty74 rfl) ?_
    refine RW.opd rfl rfl (LO.len_isl rfl rfl rfl ty74) ?_
    refine RW.opd rfl rfl (LO.move rfl rfl) ?_
    refine RW.nil ?_
    generalize m.ports = ps at *
    repeat (refine W.seq ?_)
    refine W.block ?_
    refine W.rename [] 0 (T' := up (up (up (up (up (up mt 45 (some (.isl (memsC A) A.length))) 46 (some (.base (.int .i64 (A.length : Int))))) 47 (some (.base (.int .i64 (i : Int))))) 90 (some (.isl (prtsC ps) ps.length))) 91 (some (.base (.int .i64 (ps.length : Int))))) 92 (some (.base (.int .i64 (0 : Int))))) (H' := mt) (by decide) ?_ ?_ ?_
    · (repeat' (first | exact all_mt | refine all_up ?_ ?_)) <;> first | exact .inl ⟨rfl, rfl⟩ | exact .inr ⟨rfl, fun _ h => by cases h⟩ | exact .inl ⟨rfl, by first | rfl | assumption ⟩
    · (repeat' (first | exact all_mt | refine all_up ?_ ?_)) <;> first | exact ⟨rfl, _, rfl, .inr ⟨rfl, rfl⟩⟩ | exact ⟨rfl, _, rfl, .inl rfl⟩ | exact ⟨rfl, _, rfl, .inr ⟨rfl, by first | rfl | assumption ⟩⟩
    refine W.loop_ind (α := Nat) (fun x => ps.length - x) 0 (fun x => up (up (up (up (up (up mt 45 (some (.isl (memsC A) A.length))) 46 (some (.base (.int .i64 (A.length : Int))))) 47 (some (.base (.int .i64 (i : Int))))) 90 (some (.isl (prtsC ps) ps.length))) 91 (some (.base (.int .i64 (ps.length : Int))))) 92 (some (.base (.int .i64 (x : Int))))) (fun x => mt) (fun x => x ≤ ps.length) 0 (show 0 ≤ ps.length from Nat.zero_le _) ?_
    rintro j hIB ihB
    try (dsimp only at hIB)
    try dsimp only
    by_cases hc2 : j < ps.length
    · have g2 : decide ((j : Int) < (ps.length : Int)) = true := decide_eq_true (by omega)
      have hodd := odd_any _ (hps _ (List.getElem_mem hc2))
      repeat (refine W.seq ?_)
      refine W.region 128 129 (by decide) rfl rfl ?_
      refine RW.opd rfl rfl (LO.lss rfl rfl rfl) ?_
      refine RW.nil ?_
      repeat (refine W.seq ?_)
      refine W.cond_t rfl (by first | rfl | assumption) ?_
      refine W.skip ?_
      repeat (refine W.seq ?_)
      refine W.block ?_
      repeat (refine W.seq ?_)
      refine W.region 133 137 (by decide) rfl rfl ?_
      refine RW.opd rfl rfl (LO.indexAddr_isl rfl rfl rfl rfl rfl ty74 ty83 ?_) ?_; (· (first | omega | decide | assumption | fail | (simp; done) | (simp; omega)))
      refine RW.opd rfl rfl (LO.load_imm_agg rfl rfl ty83 rfl (prts_tk hc2)) ?_
      refine RW.opd rfl rfl (LO.alloc rfl ty83) ?_
      refine RW.opn rfl rfl (LO.store rfl rfl rfl rfl rfl ty83 rfl (by decide) (Sp.lit rfl)) ?_
      refine RW.nil ?_
      generalize ps[j] = p at *
      repeat (refine W.seq ?_)
      refine W.region 141 143 (by decide) rfl rfl ?_
      refine RW.opd rfl rfl (LO.load_agg rfl rfl rfl ty83 rfl (Tk.lit rfl)) ?_
      refine RW.opd rfl rfl (LO.call0 (fr := []) rfl rfl (hodd) fok75 (.cons rfl (.pure rfl) .nil) rfl) ?_
      refine RW.nil ?_
      repeat (refine W.seq ?_)
      refine W.cond_f rfl (by first | rfl | assumption) ?_
      refine W.skip ?_
      repeat (refine W.seq ?_)
      refine W.region 152 154 (by decide) rfl rfl ?_
      refine RW.opd rfl rfl (LO.add_in rfl rfl rfl ?_) ?_; (· (first | exact IntWalk.i64_in _ (by omega) | assumption))
      refine RW.opd rfl rfl (LO.move rfl rfl) ?_
      refine RW.nil ?_
      refine WL.rename [] 0 (by decide) ?_ ?_ (ihB (j + 1) (show ps.length - (j + 1) < ps.length - j from by omega) (show (j + 1) ≤ ps.length from by omega))
      · (repeat' (first | exact all_mt | refine all_up ?_ ?_)) <;> first | exact .inl ⟨rfl, rfl⟩ | exact .inr ⟨rfl, fun _ h => by cases h⟩ | exact .inl ⟨rfl, by first | rfl | assumption ⟩
      · (repeat' (first | exact all_mt | refine all_up ?_ ?_)) <;> first | exact ⟨rfl, _, rfl, .inr ⟨rfl, rfl⟩⟩ | exact ⟨rfl, _, rfl, .inl rfl⟩ | exact ⟨rfl, _, rfl, .inr ⟨rfl, by first | rfl | assumption ⟩⟩
    · have g2 : decide ((j : Int) < (ps.length : Int)) = false := decide_eq_false (by omega)
      repeat (refine W.seq ?_)
      refine W.region 128 129 (by decide) rfl rfl ?_
      refine RW.opd rfl rfl (LO.lss rfl rfl rfl) ?_
      refine RW.nil ?_
      repeat (refine W.seq ?_)
      refine W.cond_f rfl (by first | rfl | assumption) ?_
      refine W.exit ?_
      clear ihB
      repeat (refine W.seq ?_)
      refine W.region 158 160 (by decide) rfl rfl ?_
      refine RW.opd rfl rfl (LO.add_in rfl rfl rfl ?_) ?_; (· (first | exact IntWalk.i64_in _ (by omega) | assumption))
      refine RW.opd rfl rfl (LO.move rfl rfl) ?_
      refine RW.nil ?_
      refine WL.rename [] 0 (by decide) ?_ ?_ (ihA (i + 1) (show A.length - (i + 1) < A.length - i from by omega) (show (i + 1) ≤ A.length from by omega))
      · (repeat' (first | exact all_mt | refine all_up ?_ ?_)) <;> first | exact .inl ⟨rfl, rfl⟩ | exact .inr ⟨rfl, fun _ h => by cases h⟩ | exact .inl ⟨rfl, by first | rfl | assumption ⟩
      · (repeat' (first | exact all_mt | refine all_up ?_ ?_)) <;> first | exact ⟨rfl, _, rfl, .inr ⟨rfl, rfl⟩⟩ | exact ⟨rfl, _, rfl, .inl rfl⟩ | exact ⟨rfl, _, rfl, .inr ⟨rfl, by first | rfl | assumption ⟩⟩
  · have g1 : decide ((i : Int) < (A.length : Int)) = false := decide_eq_false (by omega)
    repeat (refine W.seq ?_)
    refine W.region 60 61 (by decide) rfl rfl ?_
    refine RW.opd rfl rfl (LO.lss rfl rfl rfl) ?_
    refine RW.nil ?_
    repeat (refine W.seq ?_)
    refine W.cond_f rfl (by first | rfl | assumption) ?_
    refine W.exit ?_
    repeat (refine W.seq ?_)
    refine W.region 164 165 (by decide) rfl rfl ?_
    refine RW.opd rfl rfl (LO.assign rfl rfl) ?_
    refine RW.nil ?_
    repeat (refine W.seq ?_)
    refine W.ret ⟨.inl rfl, _, mt, RVs.cons (RV.tmp rfl) (RVs.nil), all_mt, ?_⟩
    exact ⟨rfl, rfl⟩
end Go.Proofs.YtcidmiacfjdepaaDoor
