/-
  Attributes from a list of numbers.
-/
import Derived.Test.YtgklkocmimjifaaCb
namespace Go.Proofs.Ytgklkocmimjifaa
open Go.RowKit
def segC (s : Bool × List Int) : List AV := [.base (.bool s.1), .isl (intsC s.2) s.2.length]
def segsC (p : List (Bool × List Int)) : List AV := p.flatMap segC
theorem segsC_len (p : List (Bool × List Int)) : (segsC p).length = p.length * 2 := by
  unfold segsC
  induction p with
  | nil => rfl
  | cons a p ih => rw [List.flatMap_cons, List.length_append, ih, List.length_cons]; show 2 + p.length * 2 = _; omega
/-- attributes -/
structure At where
  org : Int
  path : List (Bool × List Int)
  nx : Ad
  med : Int
  pref : Int
  otc : Int
  cc : List AV
  cn : Nat
  lc : List AV
  ln : Nat
  oc : List AV
  on : Nat
def atC (a : At) : List AV := [.base (.int .i64 a.org), .isl (segsC a.path) a.path.length, .base (.bool a.nx.v6), .base (.int .u64 a.nx.hi), .base (.int .u64 a.nx.lo), .base (.int .i64 a.med), .base (.int .i64 a.pref), .base (.int .i64 a.otc), .isl a.cc a.cn, .isl a.lc a.ln, .isl a.oc a.on]
def GoodAt (a : At) : Prop := (0 ≤ a.org ∧ a.org ≤ 2) ∧ (-1 ≤ a.med ∧ a.med ≤ 2) ∧ a.path.length ≤ 10 ∧ ∀ s ∈ a.path, s.2.length ≤ 10
def seven (x : Int) : List AV := [.base (.int .i64 x), .base (.int .i64 101), .base (.int .i64 102), .base (.int .i64 201), .base (.int .i64 202), .base (.int .i64 203), .base (.int .i64 301)]
theorem seven_at {x : Int} {i : Nat} (h : i < 7) : ∃ y : Int, (seven x)[0 + i * 1]? = some (.base (.int .i64 y)) := by
  rcases (show i = 0 ∨ i = 1 ∨ i = 2 ∨ i = 3 ∨ i = 4 ∨ i = 5 ∨ i = 6 by omega) with rfl | rfl | rfl | rfl | rfl | rfl | rfl <;> exact ⟨_, rfl⟩
theorem empty_any : AFn Try.prog 32 0 [] mt (.agg [.base (.int .i64 (-1)), .nils, .base (.bool false), .base (.int .u64 0), .base (.int .u64 0), .base (.int .i64 (-1)), .base (.int .i64 (-1)), .base (.int .i64 (-1)), .nils, .nils, .nils]) mt := by
  refine AFn.eq Try.func32 rfl rfl (Nat.le_of_ble_eq_true rfl) ?_
  repeat (refine W.seq ?_)
  refine W.region 0 1 (by decide) rfl rfl ?_
  refine RW.opd rfl rfl (LO.alloc rfl ty41) ?_
  refine RW.nil ?_
  repeat (refine W.seq ?_)
  refine W.region 5 7 (by decide) rfl rfl ?_
  refine RW.opd rfl rfl (LO.build_st rfl ty41 (.cons rfl rfl rfl rfl (Sp.lit rfl) (.cons rfl rfl rfl rfl (Sp.lit rfl) (.cons rfl rfl rfl rfl (Sp.lit rfl) (.cons rfl rfl rfl rfl (Sp.lit rfl) .nil))))) ?_
  refine RW.opn rfl rfl (LO.store rfl rfl rfl rfl rfl ty41 rfl (by decide) (Sp.lit rfl)) ?_
  refine RW.nil ?_
  repeat (refine W.seq ?_)
  refine W.ret ⟨.inl rfl, _, mt, (RVs.cons (RV.cellA rfl rfl ty41 rfl (Tk.lit rfl)) RVs.nil), (by (repeat' (first | exact all_mt | refine all_up ?_ ?_)) <;> rfl), ?_⟩
  exact ⟨rfl, rfl⟩
theorem ints_sp {l : List Int} {k : Nat} {v : Int} (h : k < l.length) : Sp (intsC l) (0 + k * 1) [.base (.int .i64 v)] (intsC (l.set k v)) := by
  have := Sp.set (intsC l) k (.base (.int .i64 v)) (by rwa [intsC_len])
  rw [show intsC (l.set k v) = (intsC l).set k (.base (.int .i64 v)) from by simp [intsC, List.map_set]]
  simpa using this
set_option maxHeartbeats 4000000 in
theorem attrs_any (l : List Int) (at_ : Nat) (asn : Int) (v6 : Bool) (hl : l.length ≤ 9223372036854775807) :
    ∃ v H', AFn Try.prog 24 1 [.own 0 0, .base (.int .i64 asn), .base (.bool v6)] (up mt 0 (some (deckC l at_))) v H' ∧ ∃ (a : At) (at' : Nat), GoodAt a ∧ v = .agg (atC a) ∧ H' = up mt 0 (some (deckC l at')) := by
  refine AFn.ex Try.func24 rfl rfl (Nat.le_of_ble_eq_true rfl) ?_
  obtain ⟨a1, ha1⟩ : ∃ a1, nextAt l at_ = a1 := ⟨_, rfl⟩
  have n1 := next_any l at_ 3 (by decide) (by decide) hl
  have b1 := nextV_bd l at_ 3 (by decide)
  obtain ⟨og, hog⟩ : ∃ og, nextV l at_ 3 = og := ⟨_, rfl⟩
  rw [hog] at b1
  rw [hog, ha1] at n1
  obtain ⟨a2, ha2⟩ : ∃ a2, nextAt l a1 = a2 := ⟨_, rfl⟩
  have n2 := next_any l a1 4 (by decide) (by decide) hl
  have b2 := nextV_bd l a1 4 (by decide)
  obtain ⟨k0, hk0⟩ : ∃ k0 : Nat, nextV l a1 4 = (k0 : Int) := ⟨(nextV l a1 4).toNat, by omega⟩
  rw [hk0] at b2
  rw [hk0, ha2] at n2
  repeat (refine W.seq ?_)
  refine W.region 1 2 (by decide) rfl rfl ?_
  refine RW.opd rfl rfl (LO.alloc rfl ty41) ?_
  refine RW.nil ?_
  repeat (refine W.seq ?_)
  refine W.region 6 9 (by decide) rfl rfl ?_
  refine RW.opd rfl rfl (LO.call0 (fr := []) rfl rfl (empty_any) fok32 .nil rfl) ?_
  refine RW.opd rfl rfl (LO.alloc rfl ty41) ?_
  refine RW.opn rfl rfl (LO.store rfl rfl rfl rfl rfl ty41 rfl (by decide) (Sp.lit rfl)) ?_
  refine RW.nil ?_
  repeat (refine W.seq ?_)
  refine W.region 13 17 (by decide) rfl rfl ?_
  refine RW.opd rfl rfl (LO.move rfl rfl) ?_
  refine RW.opd rfl rfl (LO.call1 (fr := []) rfl rfl (n1) fok22 (.own rfl rfl (.cons rfl (.pure rfl) .nil)) rfl rfl rfl (List.cons_ne_nil _ _) (by decide) rfl) ?_
  refine RW.opd rfl rfl (LO.fieldAddr rfl rfl ty41 rfl (by decide)) ?_
  refine RW.opn rfl rfl (LO.store rfl rfl rfl rfl rfl ty3 rfl (by decide) (Sp.lit rfl)) ?_
  refine RW.nil ?_
  repeat (refine W.seq ?_)
  refine W.region 21 24 (by decide) rfl rfl ?_
  refine RW.opd rfl rfl (LO.move rfl rfl) ?_
  refine RW.opd rfl rfl (LO.buildSlice rfl ty22 ty3 (by decide) (by decide) (.cons rfl rfl rfl rfl (Sp.lit rfl) .nil)) ?_
  refine RW.opd rfl rfl (LO.assign rfl rfl) ?_
  refine RW.nil ?_
  repeat (refine W.seq ?_)
  refine W.region 28 31 (by decide) rfl rfl ?_
  refine RW.opd rfl rfl (LO.move rfl rfl) ?_
  refine RW.opd rfl rfl (LO.call1 (fr := []) rfl rfl (n2) fok22 (.own rfl rfl (.cons rfl (.pure rfl) .nil)) rfl rfl rfl (List.cons_ne_nil _ _) (by decide) rfl) ?_
  refine RW.opd rfl rfl (LO.assign rfl rfl) ?_
  refine RW.nil ?_
  repeat (refine W.seq ?_)
  refine W.block ?_
  refine W.loop_keep (α := Nat × Nat × List Int) (fun x => x.1) 4 (fun x => [(0, .own 0 0), (6, .own 1 0), (7, .own 2 0), (8, .osl 3 0 x.2.2.length 1), (9, .base (.int .i64 (x.1 : Int)))]) (fun x => up (up (up (up mt 0 (some (deckC l x.2.1))) 1 (some ([.base (.int .i64 0), .nils, .base (.bool false), .base (.int .u64 0), .base (.int .u64 0), .base (.int .i64 0), .base (.int .i64 0), .base (.int .i64 0), .nils, .nils, .nils]))) 2 (some ([.base (.int .i64 og), .nils, .base (.bool false), .base (.int .u64 0), .base (.int .u64 0), .base (.int .i64 (-1)), .base (.int .i64 (-1)), .base (.int .i64 (-1)), .nils, .nils, .nils]))) 3 (some (intsC x.2.2))) (fun x => x.2.2.length + x.1 ≤ 5 ∧ 1 ≤ x.2.2.length) (k0, a2, [asn]) [(0, 0), (1, 1), (2, 7), (3, 22)] (.cons (t := 1) rfl (by first | exact .inl rfl | exact .inr ⟨rfl, fun _ h => by cases h⟩ | (exact .inl (by assumption)) | exact .inl rfl | exact .inl (intsC_pure _)) (.cons (t := 2) rfl (by first | exact .inl rfl | exact .inr ⟨rfl, fun _ h => by cases h⟩ | (exact .inl (by assumption)) | exact .inl rfl | exact .inl (intsC_pure _)) .nil)) (show [asn].length + k0 ≤ 5 ∧ 1 ≤ [asn].length from ⟨by show 1 + k0 ≤ 5; omega, Nat.le_refl 1⟩) (by decide) ?_ ?_ ?_
  · (repeat' (first | exact LookR.nil | refine LookR.cons ?_ ?_)) <;> first | exact .inl ⟨rfl, rfl⟩ | exact .inr ⟨rfl, fun _ h => by cases h⟩ | exact .inl ⟨rfl, by first | rfl | assumption | exact rfl | exact (intsC_pure _)⟩
  · (repeat' (first | exact all_mt | refine all_up ?_ ?_)) <;> first | exact ⟨rfl, _, rfl, .inr ⟨rfl, rfl⟩⟩ | exact ⟨rfl, _, rfl, .inl rfl⟩ | exact ⟨rfl, _, rfl, .inr ⟨rfl, by first | rfl | assumption | exact rfl | exact (intsC_pure _)⟩⟩
  rintro ⟨k, a, ps⟩ hIA ihA
  try (dsimp only at hIA)
  try dsimp only [baseT, List.cons_append, List.nil_append]
  obtain ⟨hpk, hp1⟩ := hIA
  by_cases hk : k = 0
  rotate_left
  · have g1 : decide ((k : Int) > 0) = true := decide_eq_true (by omega)
    have hkk : (k : Int) - 1 = ((k - 1 : Nat) : Int) := by omega
    obtain ⟨a3, ha3⟩ : ∃ a3, nextAt l a = a3 := ⟨_, rfl⟩
    have n3 := next_any l a 7 (by decide) (by decide) hl
    have b3 := nextV_bd l a 7 (by decide)
    obtain ⟨j, hj⟩ : ∃ j : Nat, nextV l a 7 = (j : Int) := ⟨(nextV l a 7).toNat, by omega⟩
    rw [hj] at b3
    rw [hj, ha3] at n3
    obtain ⟨y, hy⟩ := seven_at (x := asn) (i := j) (by omega)
    have hap : intsC ps ++ [AV.base (.int .i64 y)] = intsC (ps ++ [y]) := by rw [intsC_app]; rfl
    have hl1 : ps.length + 1 = (ps ++ [y]).length := by simp
    repeat (refine W.seq ?_)
    refine W.region 35 37 (by decide) rfl rfl ?_
    refine RW.opd rfl rfl (LO.move rfl rfl) ?_
    refine RW.opd rfl rfl (LO.gtr rfl rfl rfl) ?_
    refine RW.nil ?_
    repeat (refine W.seq ?_)
    refine W.cond_t rfl (by first | rfl | assumption) ?_
    refine W.skip ?_
    repeat (refine W.seq ?_)
    refine W.block ?_
    repeat (refine W.seq ?_)
    refine W.region 41 51 (by decide) rfl rfl ?_
    refine RW.opd rfl rfl (LO.move rfl rfl) ?_
    refine RW.opd rfl rfl (LO.move rfl rfl) ?_
    refine RW.opd rfl rfl (LO.buildSlice rfl ty22 ty3 (by decide) (by decide) (.cons rfl rfl rfl rfl (Sp.lit rfl) (.cons rfl rfl rfl rfl (Sp.lit rfl) (.cons rfl rfl rfl rfl (Sp.lit rfl) (.cons rfl rfl rfl rfl (Sp.lit rfl) (.cons rfl rfl rfl rfl (Sp.lit rfl) (.cons rfl rfl rfl rfl (Sp.lit rfl) (.cons rfl rfl rfl rfl (Sp.lit rfl) .nil)))))))) ?_
    refine RW.opd rfl rfl (LO.move rfl rfl) ?_
    refine RW.opd rfl rfl (LO.call1 (fr := []) rfl rfl (n3) fok22 (.own rfl rfl (.cons rfl (.pure rfl) .nil)) rfl rfl rfl (List.cons_ne_nil _ _) (by decide) rfl) ?_
    refine RW.opd rfl rfl (LO.indexAddr rfl rfl rfl rfl ty22 ty3 ?_) ?_; (· (first | omega | decide | assumption | fail | (simp; done) | (simp; omega)))
    refine RW.opd rfl rfl (LO.load rfl rfl rfl hy ty3 rfl) ?_
    refine RW.opd rfl rfl (LO.buildSlice rfl ty22 ty3 (by decide) (by decide) (.cons rfl rfl rfl rfl (Sp.lit rfl) .nil)) ?_
    refine RW.opd rfl rfl (LO.append rfl rfl (SrcAV.own rfl rfl (Tk.lit rfl)) rfl (ints_tk rfl) ty22 ty22 ty3 (by decide) (by omega) (by omega) (by decide)) ?_
    refine RW.opd rfl rfl (LO.assign rfl rfl) ?_
    refine RW.nil ?_
    rw [hap, hl1]
    repeat (refine W.seq ?_)
    refine W.region 55 58 (by decide) rfl rfl ?_
    refine RW.opd rfl rfl (LO.move rfl rfl) ?_
    refine RW.opd rfl rfl (LO.sub_in rfl rfl rfl ?_) ?_; (· (first | exact IntWalk.i64_in _ (by omega) | assumption))
    refine RW.opd rfl rfl (LO.assign rfl rfl) ?_
    refine RW.nil ?_
    rw [hkk]
    refine WL.renameL [(0, 0), (1, 1), (2, 2), (3, 49)] 4 (by decide) ?_ ?_ (ihA ((k - 1), a3, (ps ++ [y])) (show (k - 1) < k from by omega) (show (ps ++ [y]).length + (k - 1) ≤ 5 ∧ 1 ≤ (ps ++ [y]).length from ⟨by rw [← hl1]; omega, by rw [← hl1]; omega⟩))
    · (repeat' (first | exact LookR.nil | refine LookR.cons ?_ ?_)) <;> first | exact .inl ⟨rfl, rfl⟩ | exact .inr ⟨rfl, fun _ h => by cases h⟩ | exact .inl ⟨rfl, by first | rfl | assumption | exact rfl | exact (intsC_pure _)⟩
    · (repeat' (first | exact all_mt | refine all_up ?_ ?_)) <;> first | exact ⟨rfl, _, rfl, .inr ⟨rfl, rfl⟩⟩ | exact ⟨rfl, _, rfl, .inl rfl⟩ | exact ⟨rfl, _, rfl, .inr ⟨rfl, by first | rfl | assumption | exact rfl | exact (intsC_pure _)⟩⟩
  have g1 : decide ((k : Int) > 0) = false := decide_eq_false (by omega)
  repeat (refine W.seq ?_)
  refine W.region 35 37 (by decide) rfl rfl ?_
  refine RW.opd rfl rfl (LO.move rfl rfl) ?_
  refine RW.opd rfl rfl (LO.gtr rfl rfl rfl) ?_
  refine RW.nil ?_
  repeat (refine W.seq ?_)
  refine W.cond_f rfl (by first | rfl | assumption) ?_
  refine W.exit ?_
  have hk0 : k = 0 := hk
  have hogb : 0 ≤ og ∧ og ≤ 2 := ⟨by omega, by omega⟩
  repeat (refine W.seq ?_)
  refine W.region 62 67 (by decide) rfl rfl ?_
  refine RW.opd rfl rfl (LO.move rfl rfl) ?_
  refine RW.opd rfl rfl (LO.build_st rfl ty71 (.cons rfl rfl rfl rfl (Sp.lit rfl) .nil)) ?_
  refine RW.opd rfl rfl (LO.buildSlice rfl ty36 ty71 (by decide) (by decide) (.cons rfl rfl rfl rfl (Sp.lit rfl) .nil)) ?_
  refine RW.opd rfl rfl (LO.fieldAddr rfl rfl ty41 rfl (by decide)) ?_
  refine RW.opn rfl rfl (LO.store rfl rfl rfl rfl rfl ty36 rfl (by decide) (Sp.lit rfl)) ?_
  refine RW.nil ?_
  obtain ⟨_, _, hpt, nx, rfl, rfl⟩ := port_any asn v6
  obtain ⟨nv, nh, nl⟩ := nx
  unfold adC at hpt
  repeat (refine W.seq ?_)
  refine W.region 71 76 (by decide) rfl rfl ?_
  refine RW.opd rfl rfl (LO.move rfl rfl) ?_
  refine RW.opd rfl rfl (LO.move rfl rfl) ?_
  refine RW.opd rfl rfl (LO.call0 (fr := []) rfl rfl (hpt) fok33 (.cons rfl (.pure rfl) (.cons rfl (.pure rfl) .nil)) rfl) ?_
  refine RW.opd rfl rfl (LO.fieldAddr rfl rfl ty41 rfl (by decide)) ?_
  refine RW.opn rfl rfl (LO.store rfl rfl rfl rfl rfl ty33 rfl (by decide) (Sp.lit rfl)) ?_
  refine RW.nil ?_
  obtain ⟨a4, ha4⟩ : ∃ a4, nextAt l a = a4 := ⟨_, rfl⟩
  have n4 := next_any l a 3 (by decide) (by decide) hl
  obtain ⟨e4, he4⟩ : ∃ e4, nextV l a 3 = e4 := ⟨_, rfl⟩
  rw [he4, ha4] at n4
  repeat (refine W.seq ?_)
  refine W.region 80 83 (by decide) rfl rfl ?_
  refine RW.opd rfl rfl (LO.move rfl rfl) ?_
  refine RW.opd rfl rfl (LO.call1 (fr := []) rfl rfl (n4) fok22 (.own rfl rfl (.cons rfl (.pure rfl) .nil)) rfl rfl rfl (List.cons_ne_nil _ _) (by decide) rfl) ?_
  refine RW.opd rfl rfl (LO.eql rfl rfl rfl) ?_
  refine RW.nil ?_
  refine W.joinK (α := Int × Nat) 5 (fun x => [(0, .own 0 0), (6, .own 1 0), (7, .own 2 0)]) (fun x => up (up (up (up (up mt 0 (some (deckC l x.2))) 1 (some ([.base (.int .i64 0), .nils, .base (.bool false), .base (.int .u64 0), .base (.int .u64 0), .base (.int .i64 0), .base (.int .i64 0), .base (.int .i64 0), .nils, .nils, .nils]))) 2 (some ([.base (.int .i64 og), .osl 4 0 1 2, .base (.bool nv), .base (.int .u64 nh), .base (.int .u64 nl), .base (.int .i64 x.1), .base (.int .i64 (-1)), .base (.int .i64 (-1)), .nils, .nils, .nils]))) 3 (some (intsC ps))) 4 (some ([.base (.bool false), .osl 3 0 ps.length 1]))) (fun x => -1 ≤ x.1 ∧ x.1 ≤ 2) (.cons (t := 2) rfl (by first | exact .inl rfl | exact .inr ⟨rfl, fun _ h => by cases h⟩ | (exact .inl (by assumption)) | exact .inl rfl | exact .inl (intsC_pure _)) .nil) ?_ ?_
  rotate_left
  rintro ⟨md, b⟩ hIM
  try (dsimp only at hIM)
  try dsimp only [joinT, baseT, List.cons_append, List.nil_append]
  rotate_right
  · rcases Bool.eq_false_or_eq_true (e4 == 0) with g2 | g2
    ·
      obtain ⟨a5, ha5⟩ : ∃ a5, nextAt l a4 = a5 := ⟨_, rfl⟩
      have n5 := next_any l a4 3 (by decide) (by decide) hl
      have b5 := nextV_bd l a4 3 (by decide)
      obtain ⟨e5, he5⟩ : ∃ e5, nextV l a4 3 = e5 := ⟨_, rfl⟩
      rw [he5] at b5
      rw [he5, ha5] at n5
      repeat (refine W.seq ?_)
      refine W.cond_t rfl (by first | rfl | assumption) ?_
      repeat (refine W.seq ?_)
      refine W.region 87 91 (by decide) rfl rfl ?_
      refine RW.opd rfl rfl (LO.move rfl rfl) ?_
      refine RW.opd rfl rfl (LO.call1 (fr := []) rfl rfl (n5) fok22 (.own rfl rfl (.cons rfl (.pure rfl) .nil)) rfl rfl rfl (List.cons_ne_nil _ _) (by decide) rfl) ?_
      refine RW.opd rfl rfl (LO.fieldAddr rfl rfl ty41 rfl (by decide)) ?_
      refine RW.opn rfl rfl (LO.store rfl rfl rfl rfl rfl ty3 rfl (by decide) (Sp.lit rfl)) ?_
      refine RW.nil ?_
      intro yJ KJ hJ
      refine W.renameJ [(0, 0), (1, 1), (2, 2), (3, 3), (4, 64)] 5 (by decide) ?_ ?_ (hJ (e5, a5) (show -1 ≤ e5 ∧ e5 ≤ 2 from ⟨by omega, by omega⟩))
      · (repeat' (first | exact LookR.nil | refine LookR.cons ?_ ?_)) <;> first | exact .inl ⟨rfl, rfl⟩ | exact .inr ⟨rfl, fun _ h => by cases h⟩ | exact .inl ⟨rfl, by first | rfl | assumption | exact rfl | exact (intsC_pure _)⟩
      · (repeat' (first | exact all_mt | refine all_up ?_ ?_)) <;> first | exact ⟨rfl, _, rfl, .inr ⟨rfl, rfl⟩⟩ | exact ⟨rfl, _, rfl, .inl rfl⟩ | exact ⟨rfl, _, rfl, .inr ⟨rfl, by first | rfl | assumption | exact rfl | exact (intsC_pure _)⟩⟩
    ·
      repeat (refine W.seq ?_)
      refine W.cond_f rfl (by first | rfl | assumption) ?_
      refine W.skip ?_
      intro yJ KJ hJ
      refine W.renameJ [(0, 0), (1, 1), (2, 2), (3, 3), (4, 64)] 5 (by decide) ?_ ?_ (hJ (((-1)), a4) (show -1 ≤ ((-1)) ∧ ((-1)) ≤ 2 from ⟨by decide, by decide⟩))
      · (repeat' (first | exact LookR.nil | refine LookR.cons ?_ ?_)) <;> first | exact .inl ⟨rfl, rfl⟩ | exact .inr ⟨rfl, fun _ h => by cases h⟩ | exact .inl ⟨rfl, by first | rfl | assumption | exact rfl | exact (intsC_pure _)⟩
      · (repeat' (first | exact all_mt | refine all_up ?_ ?_)) <;> first | exact ⟨rfl, _, rfl, .inr ⟨rfl, rfl⟩⟩ | exact ⟨rfl, _, rfl, .inl rfl⟩ | exact ⟨rfl, _, rfl, .inr ⟨rfl, by first | rfl | assumption | exact rfl | exact (intsC_pure _)⟩⟩
  have hmd : -1 ≤ md ∧ md ≤ 2 := hIM
  clear hIM
  obtain ⟨a6, ha6⟩ : ∃ a6, nextAt l b = a6 := ⟨_, rfl⟩
  have n6 := next_any l b 6 (by decide) (by decide) hl
  obtain ⟨e6, he6⟩ : ∃ e6, nextV l b 6 = e6 := ⟨_, rfl⟩
  rw [he6, ha6] at n6
  repeat (refine W.seq ?_)
  refine W.region 95 98 (by decide) rfl rfl ?_
  refine RW.opd rfl rfl (LO.move rfl rfl) ?_
  refine RW.opd rfl rfl (LO.call1 (fr := []) rfl rfl (n6) fok22 (.own rfl rfl (.cons rfl (.pure rfl) .nil)) rfl rfl rfl (List.cons_ne_nil _ _) (by decide) rfl) ?_
  refine RW.opd rfl rfl (LO.eql rfl rfl rfl) ?_
  refine RW.nil ?_
  refine W.joinK (α := Int × Nat) 5 (fun x => [(0, .own 0 0), (6, .own 1 0), (7, .own 2 0)]) (fun x => up (up (up (up (up mt 0 (some (deckC l x.2))) 1 (some ([.base (.int .i64 0), .nils, .base (.bool false), .base (.int .u64 0), .base (.int .u64 0), .base (.int .i64 0), .base (.int .i64 0), .base (.int .i64 0), .nils, .nils, .nils]))) 2 (some ([.base (.int .i64 og), .osl 4 0 1 2, .base (.bool nv), .base (.int .u64 nh), .base (.int .u64 nl), .base (.int .i64 md), .base (.int .i64 x.1), .base (.int .i64 (-1)), .nils, .nils, .nils]))) 3 (some (intsC ps))) 4 (some ([.base (.bool false), .osl 3 0 ps.length 1]))) (fun x => True) (.cons (t := 2) rfl (by first | exact .inl rfl | exact .inr ⟨rfl, fun _ h => by cases h⟩ | (exact .inl (by assumption)) | exact .inl rfl | exact .inl (intsC_pure _)) .nil) ?_ ?_
  rotate_left
  rintro ⟨pf, c⟩ hIN
  try (dsimp only at hIN)
  try dsimp only [joinT, baseT, List.cons_append, List.nil_append]
  rotate_right
  · rcases Bool.eq_false_or_eq_true (e6 == 0) with g2 | g2
    ·
      obtain ⟨a7, ha7⟩ : ∃ a7, nextAt l a6 = a7 := ⟨_, rfl⟩
      have n7 := next_any l a6 300 (by decide) (by decide) hl
      obtain ⟨e7, he7⟩ : ∃ e7, nextV l a6 300 = e7 := ⟨_, rfl⟩
      rw [he7, ha7] at n7
      repeat (refine W.seq ?_)
      refine W.cond_t rfl (by first | rfl | assumption) ?_
      repeat (refine W.seq ?_)
      refine W.region 102 106 (by decide) rfl rfl ?_
      refine RW.opd rfl rfl (LO.move rfl rfl) ?_
      refine RW.opd rfl rfl (LO.call1 (fr := []) rfl rfl (n7) fok22 (.own rfl rfl (.cons rfl (.pure rfl) .nil)) rfl rfl rfl (List.cons_ne_nil _ _) (by decide) rfl) ?_
      refine RW.opd rfl rfl (LO.fieldAddr rfl rfl ty41 rfl (by decide)) ?_
      refine RW.opn rfl rfl (LO.store rfl rfl rfl rfl rfl ty3 rfl (by decide) (Sp.lit rfl)) ?_
      refine RW.nil ?_
      intro yJ KJ hJ
      refine W.renameJ [(0, 0), (1, 1), (2, 2), (3, 3), (4, 4)] 5 (by decide) ?_ ?_ (hJ (e7, a7) (show True from trivial))
      · (repeat' (first | exact LookR.nil | refine LookR.cons ?_ ?_)) <;> first | exact .inl ⟨rfl, rfl⟩ | exact .inr ⟨rfl, fun _ h => by cases h⟩ | exact .inl ⟨rfl, by first | rfl | assumption | exact rfl | exact (intsC_pure _)⟩
      · (repeat' (first | exact all_mt | refine all_up ?_ ?_)) <;> first | exact ⟨rfl, _, rfl, .inr ⟨rfl, rfl⟩⟩ | exact ⟨rfl, _, rfl, .inl rfl⟩ | exact ⟨rfl, _, rfl, .inr ⟨rfl, by first | rfl | assumption | exact rfl | exact (intsC_pure _)⟩⟩
    ·
      repeat (refine W.seq ?_)
      refine W.cond_f rfl (by first | rfl | assumption) ?_
      refine W.skip ?_
      intro yJ KJ hJ
      refine W.renameJ [(0, 0), (1, 1), (2, 2), (3, 3), (4, 4)] 5 (by decide) ?_ ?_ (hJ (((-1)), a6) (show True from trivial))
      · (repeat' (first | exact LookR.nil | refine LookR.cons ?_ ?_)) <;> first | exact .inl ⟨rfl, rfl⟩ | exact .inr ⟨rfl, fun _ h => by cases h⟩ | exact .inl ⟨rfl, by first | rfl | assumption | exact rfl | exact (intsC_pure _)⟩
      · (repeat' (first | exact all_mt | refine all_up ?_ ?_)) <;> first | exact ⟨rfl, _, rfl, .inr ⟨rfl, rfl⟩⟩ | exact ⟨rfl, _, rfl, .inl rfl⟩ | exact ⟨rfl, _, rfl, .inr ⟨rfl, by first | rfl | assumption | exact rfl | exact (intsC_pure _)⟩⟩
  clear hIN
  obtain ⟨_, _, hcm, cc, cn, a8, rfl, rfl⟩ := comms_any l c hl
  obtain ⟨_, _, hlg, lc, ln, a9, rfl, rfl⟩ := large_any l a8 hl
  obtain ⟨b1', hb1'⟩ : ∃ b, nextAt l a9 = b := ⟨_, rfl⟩
  have n9 := next_any l a9 24 (by decide) (by decide) hl
  obtain ⟨e9, he9⟩ : ∃ e9, nextV l a9 24 = e9 := ⟨_, rfl⟩
  rw [he9, hb1'] at n9
  repeat (refine W.seq ?_)
  refine W.region 110 118 (by decide) rfl rfl ?_
  refine RW.opd rfl rfl (LO.move rfl rfl) ?_
  refine RW.opd rfl rfl (LO.call1 (fr := []) rfl rfl (hcm) fok34 (.own rfl rfl .nil) rfl rfl rfl (List.cons_ne_nil _ _) (by decide) rfl) ?_
  refine RW.opd rfl rfl (LO.move rfl rfl) ?_
  refine RW.opd rfl rfl (LO.call1 (fr := []) rfl rfl (hlg) fok35 (.own rfl rfl .nil) rfl rfl rfl (List.cons_ne_nil _ _) (by decide) rfl) ?_
  refine RW.opd rfl rfl (LO.fieldAddr rfl rfl ty41 rfl (by decide)) ?_
  refine RW.opn rfl rfl (LO.store rfl rfl rfl rfl rfl ty37 rfl (by decide) (Sp.lit rfl)) ?_
  refine RW.opd rfl rfl (LO.fieldAddr rfl rfl ty41 rfl (by decide)) ?_
  refine RW.opn rfl rfl (LO.store rfl rfl rfl rfl rfl ty38 rfl (by decide) (Sp.lit rfl)) ?_
  refine RW.nil ?_
  repeat (refine W.seq ?_)
  refine W.region 122 124 (by decide) rfl rfl ?_
  refine RW.opd rfl rfl (LO.move rfl rfl) ?_
  refine RW.opd rfl rfl (LO.call1 (fr := []) rfl rfl (n9) fok22 (.own rfl rfl (.cons rfl (.pure rfl) .nil)) rfl rfl rfl (List.cons_ne_nil _ _) (by decide) rfl) ?_
  refine RW.nil ?_
  have hcase : (e9 == 0) = true ∨ ((e9 == 0) = false ∧ (e9 == 1) = true) ∨ ((e9 == 0) = false ∧ (e9 == 1) = false ∧ (e9 == 2) = true) ∨ ((e9 == 0) = false ∧ (e9 == 1) = false ∧ (e9 == 2) = false ∧ (e9 == 3) = true) ∨ ((e9 == 0) = false ∧ (e9 == 1) = false ∧ (e9 == 2) = false ∧ (e9 == 3) = false ∧ (e9 == 4) = true) ∨ ((e9 == 0) = false ∧ (e9 == 1) = false ∧ (e9 == 2) = false ∧ (e9 == 3) = false ∧ (e9 == 4) = false ∧ (e9 == 5) = true) ∨ ((e9 == 0) = false ∧ (e9 == 1) = false ∧ (e9 == 2) = false ∧ (e9 == 3) = false ∧ (e9 == 4) = false ∧ (e9 == 5) = false ∧ (e9 == 6) = true) ∨ ((e9 == 0) = false ∧ (e9 == 1) = false ∧ (e9 == 2) = false ∧ (e9 == 3) = false ∧ (e9 == 4) = false ∧ (e9 == 5) = false ∧ (e9 == 6) = false ∧ (e9 == 7) = true) ∨ ((e9 == 0) = false ∧ (e9 == 1) = false ∧ (e9 == 2) = false ∧ (e9 == 3) = false ∧ (e9 == 4) = false ∧ (e9 == 5) = false ∧ (e9 == 6) = false ∧ (e9 == 7) = false) := by
    cases (e9 == 0) <;> cases (e9 == 1) <;> cases (e9 == 2) <;> cases (e9 == 3) <;> cases (e9 == 4) <;> cases (e9 == 5) <;> cases (e9 == 6) <;> cases (e9 == 7) <;> simp
  have hpsl : ps.length ≤ 5 := by omega
  repeat (refine W.seq ?_)
  refine W.block ?_
  rcases hcase with q0 | ⟨q0, q1⟩ | ⟨q0, q1, q2⟩ | ⟨q0, q1, q2, q3⟩ | ⟨q0, q1, q2, q3, q4⟩ | ⟨q0, q1, q2, q3, q4, q5⟩ | ⟨q0, q1, q2, q3, q4, q5, q6⟩ | ⟨q0, q1, q2, q3, q4, q5, q6, q7⟩ | ⟨q0, q1, q2, q3, q4, q5, q6, q7⟩
  ·
    obtain ⟨a10, ha10⟩ : ∃ b, nextAt l b1' = b := ⟨_, rfl⟩
    have n10 := next_any l b1' 300 (by decide) (by decide) hl
    have b10 := nextV_bd l b1' 300 (by decide)
    obtain ⟨e10, he10⟩ : ∃ e10, nextV l b1' 300 = e10 := ⟨_, rfl⟩
    rw [he10] at b10
    rw [he10, ha10] at n10
    repeat (refine W.seq ?_)
    refine W.region 128 130 (by decide) rfl rfl ?_
    refine RW.opd rfl rfl (LO.eql rfl rfl rfl) ?_
    refine RW.opd rfl rfl (LO.assign rfl rfl) ?_
    refine RW.nil ?_
    repeat (refine W.seq ?_)
    refine W.cond_t rfl (by first | rfl | assumption) ?_
    repeat (refine W.seq ?_)
    refine W.region 134 139 (by decide) rfl rfl ?_
    refine RW.opd rfl rfl (LO.move rfl rfl) ?_
    refine RW.opd rfl rfl (LO.call1 (fr := []) rfl rfl (n10) fok22 (.own rfl rfl (.cons rfl (.pure rfl) .nil)) rfl rfl rfl (List.cons_ne_nil _ _) (by decide) rfl) ?_
    refine RW.opd rfl rfl (LO.add_in rfl rfl rfl ?_) ?_; (· (first | exact IntWalk.i64_in _ (by omega) | assumption))
    refine RW.opd rfl rfl (LO.fieldAddr rfl rfl ty41 rfl (by decide)) ?_
    refine RW.opn rfl rfl (LO.store rfl rfl rfl rfl rfl ty3 rfl (by decide) (Sp.lit rfl)) ?_
    refine RW.nil ?_
    refine W.frzc (q := 4) (j := 1) (r := 3) rfl rfl (by decide) rfl (ints_tk rfl) (intsC_pure _) (Sp.lit rfl) ?_
    refine W.frzc (q := 2) (j := 1) (r := 4) rfl rfl (by decide) rfl (Tk.lit rfl) rfl (Sp.lit rfl) ?_
    refine W.nilc (q := 2) (j := 10) rfl rfl (Sp.lit rfl) ?_
    repeat (refine W.seq ?_)
    refine W.region 266 268 (by decide) rfl rfl ?_
    refine RW.opd rfl rfl (LO.load_agg rfl rfl rfl ty41 rfl (Tk.lit rfl)) ?_
    refine RW.opn rfl rfl (LO.store rfl rfl rfl rfl rfl ty41 rfl (by decide) (Sp.lit rfl)) ?_
    refine RW.nil ?_
    repeat (refine W.seq ?_)
    refine W.ret ⟨.inl rfl, _, (up mt 0 (some (deckC l a10))), (RVs.cons (RV.cellA rfl rfl ty41 rfl (Tk.lit rfl)) RVs.nil), (by (repeat' (first | exact all_mt | refine all_up ?_ ?_)) <;> rfl), ?_⟩
    exact ⟨⟨og, [(false, ps)], ⟨nv, nh, nl⟩, md, pf, 1 + e10, cc, cn, lc, ln, [], 0⟩, a10, ⟨hogb, hmd, (by simp), (by intro s hs; simp at hs; subst hs; show ps.length ≤ 10; omega)⟩, rfl, rfl⟩
  ·
    repeat (refine W.seq ?_)
    refine W.region 128 130 (by decide) rfl rfl ?_
    refine RW.opd rfl rfl (LO.eql rfl rfl rfl) ?_
    refine RW.opd rfl rfl (LO.assign rfl rfl) ?_
    refine RW.nil ?_
    repeat (refine W.seq ?_)
    refine W.cond_f rfl (by first | rfl | assumption) ?_
    repeat (refine W.seq ?_)
    refine W.region 143 145 (by decide) rfl rfl ?_
    refine RW.opd rfl rfl (LO.eql rfl rfl rfl) ?_
    refine RW.opd rfl rfl (LO.assign rfl rfl) ?_
    refine RW.nil ?_
    repeat (refine W.seq ?_)
    refine W.cond_t rfl (by first | rfl | assumption) ?_
    repeat (refine W.seq ?_)
    refine W.region 149 156 (by decide) rfl rfl ?_
    refine RW.opd rfl rfl (LO.fieldAddr rfl rfl ty41 rfl (by decide)) ?_
    refine RW.opd rfl rfl (LO.load rfl rfl rfl rfl ty36 rfl) ?_
    refine RW.opd rfl rfl (LO.indexAddr rfl rfl rfl rfl ty36 ty71 ?_) ?_; (· (first | omega | decide | assumption | fail | (simp; done) | (simp; omega)))
    refine RW.opd rfl rfl (LO.fieldAddr rfl rfl ty71 rfl (by decide)) ?_
    refine RW.opd rfl rfl (LO.load rfl rfl rfl rfl ty22 rfl) ?_
    refine RW.opd rfl rfl (LO.indexAddr rfl rfl rfl rfl ty22 ty3 ?_) ?_; (· (first | omega | decide | assumption | fail | (simp; done) | (simp; omega)))
    refine RW.opn rfl rfl (LO.store rfl rfl rfl rfl rfl ty3 rfl (by decide) (ints_sp (by first | omega | exact hp1))) ?_
    refine RW.nil ?_
    have hsl : (ps.set 0 103).length = ps.length := by simp
    refine W.frzc (q := 4) (j := 1) (r := 3) rfl rfl (by decide) rfl (ints_tk hsl) (intsC_pure _) (Sp.lit rfl) ?_
    refine W.frzc (q := 2) (j := 1) (r := 4) rfl rfl (by decide) rfl (Tk.lit rfl) rfl (Sp.lit rfl) ?_
    refine W.nilc (q := 2) (j := 10) rfl rfl (Sp.lit rfl) ?_
    rw [← hsl]
    repeat (refine W.seq ?_)
    refine W.region 266 268 (by decide) rfl rfl ?_
    refine RW.opd rfl rfl (LO.load_agg rfl rfl rfl ty41 rfl (Tk.lit rfl)) ?_
    refine RW.opn rfl rfl (LO.store rfl rfl rfl rfl rfl ty41 rfl (by decide) (Sp.lit rfl)) ?_
    refine RW.nil ?_
    repeat (refine W.seq ?_)
    refine W.ret ⟨.inl rfl, _, (up mt 0 (some (deckC l b1'))), (RVs.cons (RV.cellA rfl rfl ty41 rfl (Tk.lit rfl)) RVs.nil), (by (repeat' (first | exact all_mt | refine all_up ?_ ?_)) <;> rfl), ?_⟩
    exact ⟨⟨og, [(false, ps.set 0 103)], ⟨nv, nh, nl⟩, md, pf, -1, cc, cn, lc, ln, [], 0⟩, b1', ⟨hogb, hmd, (by simp), (by intro s hs; simp at hs; subst hs; show (ps.set 0 103).length ≤ 10; omega)⟩, rfl, rfl⟩
  ·
    repeat (refine W.seq ?_)
    refine W.region 128 130 (by decide) rfl rfl ?_
    refine RW.opd rfl rfl (LO.eql rfl rfl rfl) ?_
    refine RW.opd rfl rfl (LO.assign rfl rfl) ?_
    refine RW.nil ?_
    repeat (refine W.seq ?_)
    refine W.cond_f rfl (by first | rfl | assumption) ?_
    repeat (refine W.seq ?_)
    refine W.region 143 145 (by decide) rfl rfl ?_
    refine RW.opd rfl rfl (LO.eql rfl rfl rfl) ?_
    refine RW.opd rfl rfl (LO.assign rfl rfl) ?_
    refine RW.nil ?_
    repeat (refine W.seq ?_)
    refine W.cond_f rfl (by first | rfl | assumption) ?_
    repeat (refine W.seq ?_)
    refine W.region 160 162 (by decide) rfl rfl ?_
    refine RW.opd rfl rfl (LO.eql rfl rfl rfl) ?_
    refine RW.opd rfl rfl (LO.assign rfl rfl) ?_
    refine RW.nil ?_
    repeat (refine W.seq ?_)
    refine W.cond_t rfl (by first | rfl | assumption) ?_
    repeat (refine W.seq ?_)
    refine W.region 166 174 (by decide) rfl rfl ?_
    refine RW.opd rfl rfl (LO.fieldAddr rfl rfl ty41 rfl (by decide)) ?_
    refine RW.opd rfl rfl (LO.load rfl rfl rfl rfl ty36 rfl) ?_
    refine RW.opd rfl rfl (LO.buildSlice rfl ty22 ty3 (by decide) (by decide) (.cons rfl rfl rfl rfl (Sp.lit rfl) (.cons rfl rfl rfl rfl (Sp.lit rfl) .nil))) ?_
    refine RW.opd rfl rfl (LO.build_st rfl ty71 (.cons rfl rfl rfl rfl (Sp.lit rfl) (.cons rfl rfl rfl rfl (Sp.lit rfl) .nil))) ?_
    refine RW.opd rfl rfl (LO.buildSlice rfl ty36 ty71 (by decide) (by decide) (.cons rfl rfl rfl rfl (Sp.lit rfl) .nil)) ?_
    refine RW.opd rfl rfl (LO.append rfl rfl (SrcAV.own rfl rfl (Tk.lit rfl)) rfl (Tk.lit rfl) ty36 ty36 ty71 (by decide) (by decide) (by decide) (by decide)) ?_
    refine RW.opd rfl rfl (LO.fieldAddr rfl rfl ty41 rfl (by decide)) ?_
    refine RW.opn rfl rfl (LO.store rfl rfl rfl rfl rfl ty36 rfl (by decide) (Sp.lit rfl)) ?_
    refine RW.nil ?_
    refine W.frzc (q := 171) (j := 1) (r := 3) rfl rfl (by decide) rfl (ints_tk rfl) (intsC_pure _) (Sp.lit rfl) ?_
    refine W.frzc (q := 171) (j := 3) (r := 168) rfl rfl (by decide) rfl (ints_tk (l := [7, 9]) rfl) (intsC_pure _) (Sp.lit rfl) ?_
    refine W.frzc (q := 2) (j := 1) (r := 171) rfl rfl (by decide) rfl (Tk.lit rfl) rfl (Sp.lit rfl) ?_
    refine W.nilc (q := 2) (j := 10) rfl rfl (Sp.lit rfl) ?_
    repeat (refine W.seq ?_)
    refine W.region 266 268 (by decide) rfl rfl ?_
    refine RW.opd rfl rfl (LO.load_agg rfl rfl rfl ty41 rfl (Tk.lit rfl)) ?_
    refine RW.opn rfl rfl (LO.store rfl rfl rfl rfl rfl ty41 rfl (by decide) (Sp.lit rfl)) ?_
    refine RW.nil ?_
    repeat (refine W.seq ?_)
    refine W.ret ⟨.inl rfl, _, (up mt 0 (some (deckC l b1'))), (RVs.cons (RV.cellA rfl rfl ty41 rfl (Tk.lit rfl)) RVs.nil), (by (repeat' (first | exact all_mt | refine all_up ?_ ?_)) <;> rfl), ?_⟩
    exact ⟨⟨og, [(false, ps), (true, [7, 9])], ⟨nv, nh, nl⟩, md, pf, -1, cc, cn, lc, ln, [], 0⟩, b1', ⟨hogb, hmd, (by simp), (by intro s hs; simp at hs; rcases hs with rfl | rfl; (show ps.length ≤ 10; omega); decide)⟩, rfl, rfl⟩
  ·
    repeat (refine W.seq ?_)
    refine W.region 128 130 (by decide) rfl rfl ?_
    refine RW.opd rfl rfl (LO.eql rfl rfl rfl) ?_
    refine RW.opd rfl rfl (LO.assign rfl rfl) ?_
    refine RW.nil ?_
    repeat (refine W.seq ?_)
    refine W.cond_f rfl (by first | rfl | assumption) ?_
    repeat (refine W.seq ?_)
    refine W.region 143 145 (by decide) rfl rfl ?_
    refine RW.opd rfl rfl (LO.eql rfl rfl rfl) ?_
    refine RW.opd rfl rfl (LO.assign rfl rfl) ?_
    refine RW.nil ?_
    repeat (refine W.seq ?_)
    refine W.cond_f rfl (by first | rfl | assumption) ?_
    repeat (refine W.seq ?_)
    refine W.region 160 162 (by decide) rfl rfl ?_
    refine RW.opd rfl rfl (LO.eql rfl rfl rfl) ?_
    refine RW.opd rfl rfl (LO.assign rfl rfl) ?_
    refine RW.nil ?_
    repeat (refine W.seq ?_)
    refine W.cond_f rfl (by first | rfl | assumption) ?_
    repeat (refine W.seq ?_)
    refine W.region 178 180 (by decide) rfl rfl ?_
    refine RW.opd rfl rfl (LO.eql rfl rfl rfl) ?_
    refine RW.opd rfl rfl (LO.assign rfl rfl) ?_
    refine RW.nil ?_
    repeat (refine W.seq ?_)
    refine W.cond_t rfl (by first | rfl | assumption) ?_
    repeat (refine W.seq ?_)
    refine W.regionD 184 196 (by decide) rfl mixed rfl ?_
    refine RW.opd rfl rfl (LO.fieldAddr rfl rfl ty41 rfl (by decide)) ?_
    refine RW.opd rfl rfl (LO.load rfl rfl rfl rfl ty36 rfl) ?_
    refine RW.opd rfl rfl (LO.fieldAddr rfl rfl ty41 rfl (by decide)) ?_
    refine RW.opd rfl rfl (LO.load rfl rfl rfl rfl ty36 rfl) ?_
    refine RW.opd rfl rfl (LO.indexAddr rfl rfl rfl rfl ty36 ty71 ?_) ?_; (· (first | omega | decide | assumption | fail | (simp; done) | (simp; omega)))
    refine RW.opd rfl rfl (LO.fieldAddr rfl rfl ty71 rfl (by decide)) ?_
    refine RW.opd rfl rfl (LO.load rfl rfl rfl rfl ty22 rfl) ?_
    refine RW.opd rfl rfl (LO.buildSlice rfl ty22 ty3 (by decide) (by decide) (.cons rfl rfl rfl rfl (Sp.lit rfl) .nil)) ?_
    refine RW.opd rfl rfl (LO.append rfl rfl (SrcAV.own rfl rfl (Tk.lit rfl)) rfl (ints_tk rfl) ty22 ty22 ty3 (by decide) (by omega) (by omega) (by decide)) ?_
    refine RW.opd rfl rfl (LO.indexAddr rfl rfl rfl rfl ty36 ty71 ?_) ?_; (· (first | omega | decide | assumption | fail | (simp; done) | (simp; omega)))
    refine RW.opd rfl rfl (LO.fieldAddr rfl rfl ty71 rfl (by decide)) ?_
    refine RW.opn rfl rfl (LO.store rfl rfl rfl rfl rfl ty22 rfl (by decide) (Sp.lit rfl)) ?_
    refine RW.nil ⟨by kernel_rfl, ?_⟩
    have hsl : (ps ++ [99]).length = ps.length + 1 := by simp
    have htk : Tk (intsC ps ++ intsC [99]) 0 ((ps.length + 1) * 1) (intsC (ps ++ [99])) := by rw [← intsC_app]; exact ints_tk hsl
    refine W.frzc (q := 4) (j := 1) (r := 192) rfl rfl (by decide) rfl htk (intsC_pure _) (Sp.lit rfl) ?_
    refine W.frzc (q := 2) (j := 1) (r := 4) rfl rfl (by decide) rfl (Tk.lit rfl) rfl (Sp.lit rfl) ?_
    refine W.nilc (q := 2) (j := 10) rfl rfl (Sp.lit rfl) ?_
    rw [← hsl]
    repeat (refine W.seq ?_)
    refine W.region 266 268 (by decide) rfl rfl ?_
    refine RW.opd rfl rfl (LO.load_agg rfl rfl rfl ty41 rfl (Tk.lit rfl)) ?_
    refine RW.opn rfl rfl (LO.store rfl rfl rfl rfl rfl ty41 rfl (by decide) (Sp.lit rfl)) ?_
    refine RW.nil ?_
    repeat (refine W.seq ?_)
    refine W.ret ⟨.inl rfl, _, (up mt 0 (some (deckC l b1'))), (RVs.cons (RV.cellA rfl rfl ty41 rfl (Tk.lit rfl)) RVs.nil), (by (repeat' (first | exact all_mt | refine all_up ?_ ?_)) <;> rfl), ?_⟩
    exact ⟨⟨og, [(false, ps ++ [99])], ⟨nv, nh, nl⟩, md, pf, -1, cc, cn, lc, ln, [], 0⟩, b1', ⟨hogb, hmd, (by simp), (by intro s hs; simp at hs; subst hs; show (ps ++ [99]).length ≤ 10; omega)⟩, rfl, rfl⟩
  ·
    obtain ⟨_, _, hpt2, nx2, rfl, rfl⟩ := port_any 104 v6
    obtain ⟨mv, mh, ml⟩ := nx2
    unfold adC at hpt2
    repeat (refine W.seq ?_)
    refine W.region 128 130 (by decide) rfl rfl ?_
    refine RW.opd rfl rfl (LO.eql rfl rfl rfl) ?_
    refine RW.opd rfl rfl (LO.assign rfl rfl) ?_
    refine RW.nil ?_
    repeat (refine W.seq ?_)
    refine W.cond_f rfl (by first | rfl | assumption) ?_
    repeat (refine W.seq ?_)
    refine W.region 143 145 (by decide) rfl rfl ?_
    refine RW.opd rfl rfl (LO.eql rfl rfl rfl) ?_
    refine RW.opd rfl rfl (LO.assign rfl rfl) ?_
    refine RW.nil ?_
    repeat (refine W.seq ?_)
    refine W.cond_f rfl (by first | rfl | assumption) ?_
    repeat (refine W.seq ?_)
    refine W.region 160 162 (by decide) rfl rfl ?_
    refine RW.opd rfl rfl (LO.eql rfl rfl rfl) ?_
    refine RW.opd rfl rfl (LO.assign rfl rfl) ?_
    refine RW.nil ?_
    repeat (refine W.seq ?_)
    refine W.cond_f rfl (by first | rfl | assumption) ?_
    repeat (refine W.seq ?_)
    refine W.region 178 180 (by decide) rfl rfl ?_
    refine RW.opd rfl rfl (LO.eql rfl rfl rfl) ?_
    refine RW.opd rfl rfl (LO.assign rfl rfl) ?_
    refine RW.nil ?_
    repeat (refine W.seq ?_)
    refine W.cond_f rfl (by first | rfl | assumption) ?_
    repeat (refine W.seq ?_)
    refine W.region 200 202 (by decide) rfl rfl ?_
    refine RW.opd rfl rfl (LO.eql rfl rfl rfl) ?_
    refine RW.opd rfl rfl (LO.assign rfl rfl) ?_
    refine RW.nil ?_
    repeat (refine W.seq ?_)
    refine W.cond_t rfl (by first | rfl | assumption) ?_
    repeat (refine W.seq ?_)
    refine W.region 206 210 (by decide) rfl rfl ?_
    refine RW.opd rfl rfl (LO.move rfl rfl) ?_
    refine RW.opd rfl rfl (LO.call0 (fr := []) rfl rfl (hpt2) fok33 (.cons rfl (.pure rfl) (.cons rfl (.pure rfl) .nil)) rfl) ?_
    refine RW.opd rfl rfl (LO.fieldAddr rfl rfl ty41 rfl (by decide)) ?_
    refine RW.opn rfl rfl (LO.store rfl rfl rfl rfl rfl ty33 rfl (by decide) (Sp.lit rfl)) ?_
    refine RW.nil ?_
    refine W.frzc (q := 4) (j := 1) (r := 3) rfl rfl (by decide) rfl (ints_tk rfl) (intsC_pure _) (Sp.lit rfl) ?_
    refine W.frzc (q := 2) (j := 1) (r := 4) rfl rfl (by decide) rfl (Tk.lit rfl) rfl (Sp.lit rfl) ?_
    refine W.nilc (q := 2) (j := 10) rfl rfl (Sp.lit rfl) ?_
    repeat (refine W.seq ?_)
    refine W.region 266 268 (by decide) rfl rfl ?_
    refine RW.opd rfl rfl (LO.load_agg rfl rfl rfl ty41 rfl (Tk.lit rfl)) ?_
    refine RW.opn rfl rfl (LO.store rfl rfl rfl rfl rfl ty41 rfl (by decide) (Sp.lit rfl)) ?_
    refine RW.nil ?_
    repeat (refine W.seq ?_)
    refine W.ret ⟨.inl rfl, _, (up mt 0 (some (deckC l b1'))), (RVs.cons (RV.cellA rfl rfl ty41 rfl (Tk.lit rfl)) RVs.nil), (by (repeat' (first | exact all_mt | refine all_up ?_ ?_)) <;> rfl), ?_⟩
    exact ⟨⟨og, [(false, ps)], ⟨mv, mh, ml⟩, md, pf, -1, cc, cn, lc, ln, [], 0⟩, b1', ⟨hogb, hmd, (by simp), (by intro s hs; simp at hs; subst hs; show ps.length ≤ 10; omega)⟩, rfl, rfl⟩
  ·
    repeat (refine W.seq ?_)
    refine W.region 128 130 (by decide) rfl rfl ?_
    refine RW.opd rfl rfl (LO.eql rfl rfl rfl) ?_
    refine RW.opd rfl rfl (LO.assign rfl rfl) ?_
    refine RW.nil ?_
    repeat (refine W.seq ?_)
    refine W.cond_f rfl (by first | rfl | assumption) ?_
    repeat (refine W.seq ?_)
    refine W.region 143 145 (by decide) rfl rfl ?_
    refine RW.opd rfl rfl (LO.eql rfl rfl rfl) ?_
    refine RW.opd rfl rfl (LO.assign rfl rfl) ?_
    refine RW.nil ?_
    repeat (refine W.seq ?_)
    refine W.cond_f rfl (by first | rfl | assumption) ?_
    repeat (refine W.seq ?_)
    refine W.region 160 162 (by decide) rfl rfl ?_
    refine RW.opd rfl rfl (LO.eql rfl rfl rfl) ?_
    refine RW.opd rfl rfl (LO.assign rfl rfl) ?_
    refine RW.nil ?_
    repeat (refine W.seq ?_)
    refine W.cond_f rfl (by first | rfl | assumption) ?_
    repeat (refine W.seq ?_)
    refine W.region 178 180 (by decide) rfl rfl ?_
    refine RW.opd rfl rfl (LO.eql rfl rfl rfl) ?_
    refine RW.opd rfl rfl (LO.assign rfl rfl) ?_
    refine RW.nil ?_
    repeat (refine W.seq ?_)
    refine W.cond_f rfl (by first | rfl | assumption) ?_
    repeat (refine W.seq ?_)
    refine W.region 200 202 (by decide) rfl rfl ?_
    refine RW.opd rfl rfl (LO.eql rfl rfl rfl) ?_
    refine RW.opd rfl rfl (LO.assign rfl rfl) ?_
    refine RW.nil ?_
    repeat (refine W.seq ?_)
    refine W.cond_f rfl (by first | rfl | assumption) ?_
    repeat (refine W.seq ?_)
    refine W.region 214 216 (by decide) rfl rfl ?_
    refine RW.opd rfl rfl (LO.eql rfl rfl rfl) ?_
    refine RW.opd rfl rfl (LO.assign rfl rfl) ?_
    refine RW.nil ?_
    repeat (refine W.seq ?_)
    refine W.cond_t rfl (by first | rfl | assumption) ?_
    repeat (refine W.seq ?_)
    refine W.regionD 220 232 (by decide) rfl mixed rfl ?_
    refine RW.opd rfl rfl (LO.fieldAddr rfl rfl ty41 rfl (by decide)) ?_
    refine RW.opd rfl rfl (LO.load rfl rfl rfl rfl ty36 rfl) ?_
    refine RW.opd rfl rfl (LO.fieldAddr rfl rfl ty41 rfl (by decide)) ?_
    refine RW.opd rfl rfl (LO.load rfl rfl rfl rfl ty36 rfl) ?_
    refine RW.opd rfl rfl (LO.indexAddr rfl rfl rfl rfl ty36 ty71 ?_) ?_; (· (first | omega | decide | assumption | fail | (simp; done) | (simp; omega)))
    refine RW.opd rfl rfl (LO.fieldAddr rfl rfl ty71 rfl (by decide)) ?_
    refine RW.opd rfl rfl (LO.load rfl rfl rfl rfl ty22 rfl) ?_
    refine RW.opd rfl rfl (LO.buildSlice rfl ty22 ty3 (by decide) (by decide) (.cons rfl rfl rfl rfl (Sp.lit rfl) (.cons rfl rfl rfl rfl (Sp.lit rfl) .nil))) ?_
    refine RW.opd rfl rfl (LO.append rfl rfl (SrcAV.own rfl rfl (Tk.lit rfl)) rfl (ints_tk rfl) ty22 ty22 ty3 (by decide) (by omega) (by omega) (by decide)) ?_
    refine RW.opd rfl rfl (LO.indexAddr rfl rfl rfl rfl ty36 ty71 ?_) ?_; (· (first | omega | decide | assumption | fail | (simp; done) | (simp; omega)))
    refine RW.opd rfl rfl (LO.fieldAddr rfl rfl ty71 rfl (by decide)) ?_
    refine RW.opn rfl rfl (LO.store rfl rfl rfl rfl rfl ty22 rfl (by decide) (Sp.lit rfl)) ?_
    refine RW.nil ⟨by kernel_rfl, ?_⟩
    have hsl : (ps ++ [64512, 701]).length = ps.length + 2 := by simp
    have htk : Tk (intsC ps ++ intsC [64512, 701]) 0 ((ps.length + 2) * 1) (intsC (ps ++ [64512, 701])) := by rw [← intsC_app]; exact ints_tk hsl
    refine W.frzc (q := 4) (j := 1) (r := 228) rfl rfl (by decide) rfl htk (intsC_pure _) (Sp.lit rfl) ?_
    refine W.frzc (q := 2) (j := 1) (r := 4) rfl rfl (by decide) rfl (Tk.lit rfl) rfl (Sp.lit rfl) ?_
    refine W.nilc (q := 2) (j := 10) rfl rfl (Sp.lit rfl) ?_
    rw [← hsl]
    repeat (refine W.seq ?_)
    refine W.region 266 268 (by decide) rfl rfl ?_
    refine RW.opd rfl rfl (LO.load_agg rfl rfl rfl ty41 rfl (Tk.lit rfl)) ?_
    refine RW.opn rfl rfl (LO.store rfl rfl rfl rfl rfl ty41 rfl (by decide) (Sp.lit rfl)) ?_
    refine RW.nil ?_
    repeat (refine W.seq ?_)
    refine W.ret ⟨.inl rfl, _, (up mt 0 (some (deckC l b1'))), (RVs.cons (RV.cellA rfl rfl ty41 rfl (Tk.lit rfl)) RVs.nil), (by (repeat' (first | exact all_mt | refine all_up ?_ ?_)) <;> rfl), ?_⟩
    exact ⟨⟨og, [(false, ps ++ [64512, 701])], ⟨nv, nh, nl⟩, md, pf, -1, cc, cn, lc, ln, [], 0⟩, b1', ⟨hogb, hmd, (by simp), (by intro s hs; simp at hs; subst hs; show (ps ++ [64512, 701]).length ≤ 10; omega)⟩, rfl, rfl⟩
  ·
    repeat (refine W.seq ?_)
    refine W.region 128 130 (by decide) rfl rfl ?_
    refine RW.opd rfl rfl (LO.eql rfl rfl rfl) ?_
    refine RW.opd rfl rfl (LO.assign rfl rfl) ?_
    refine RW.nil ?_
    repeat (refine W.seq ?_)
    refine W.cond_f rfl (by first | rfl | assumption) ?_
    repeat (refine W.seq ?_)
    refine W.region 143 145 (by decide) rfl rfl ?_
    refine RW.opd rfl rfl (LO.eql rfl rfl rfl) ?_
    refine RW.opd rfl rfl (LO.assign rfl rfl) ?_
    refine RW.nil ?_
    repeat (refine W.seq ?_)
    refine W.cond_f rfl (by first | rfl | assumption) ?_
    repeat (refine W.seq ?_)
    refine W.region 160 162 (by decide) rfl rfl ?_
    refine RW.opd rfl rfl (LO.eql rfl rfl rfl) ?_
    refine RW.opd rfl rfl (LO.assign rfl rfl) ?_
    refine RW.nil ?_
    repeat (refine W.seq ?_)
    refine W.cond_f rfl (by first | rfl | assumption) ?_
    repeat (refine W.seq ?_)
    refine W.region 178 180 (by decide) rfl rfl ?_
    refine RW.opd rfl rfl (LO.eql rfl rfl rfl) ?_
    refine RW.opd rfl rfl (LO.assign rfl rfl) ?_
    refine RW.nil ?_
    repeat (refine W.seq ?_)
    refine W.cond_f rfl (by first | rfl | assumption) ?_
    repeat (refine W.seq ?_)
    refine W.region 200 202 (by decide) rfl rfl ?_
    refine RW.opd rfl rfl (LO.eql rfl rfl rfl) ?_
    refine RW.opd rfl rfl (LO.assign rfl rfl) ?_
    refine RW.nil ?_
    repeat (refine W.seq ?_)
    refine W.cond_f rfl (by first | rfl | assumption) ?_
    repeat (refine W.seq ?_)
    refine W.region 214 216 (by decide) rfl rfl ?_
    refine RW.opd rfl rfl (LO.eql rfl rfl rfl) ?_
    refine RW.opd rfl rfl (LO.assign rfl rfl) ?_
    refine RW.nil ?_
    repeat (refine W.seq ?_)
    refine W.cond_f rfl (by first | rfl | assumption) ?_
    repeat (refine W.seq ?_)
    refine W.region 236 238 (by decide) rfl rfl ?_
    refine RW.opd rfl rfl (LO.eql rfl rfl rfl) ?_
    refine RW.opd rfl rfl (LO.assign rfl rfl) ?_
    refine RW.nil ?_
    repeat (refine W.seq ?_)
    refine W.cond_t rfl (by first | rfl | assumption) ?_
    repeat (refine W.seq ?_)
    refine W.region 242 244 (by decide) rfl rfl ?_
    refine RW.opd rfl rfl (LO.fieldAddr rfl rfl ty41 rfl (by decide)) ?_
    refine RW.opn rfl rfl (LO.store rfl rfl rfl rfl rfl ty36 rfl (by decide) (Sp.lit rfl)) ?_
    refine RW.nil ?_
    refine W.nilc (q := 2) (j := 1) rfl rfl (Sp.lit rfl) ?_
    refine W.nilc (q := 2) (j := 10) rfl rfl (Sp.lit rfl) ?_
    repeat (refine W.seq ?_)
    refine W.region 266 268 (by decide) rfl rfl ?_
    refine RW.opd rfl rfl (LO.load_agg rfl rfl rfl ty41 rfl (Tk.lit rfl)) ?_
    refine RW.opn rfl rfl (LO.store rfl rfl rfl rfl rfl ty41 rfl (by decide) (Sp.lit rfl)) ?_
    refine RW.nil ?_
    repeat (refine W.seq ?_)
    refine W.ret ⟨.inl rfl, _, (up mt 0 (some (deckC l b1'))), (RVs.cons (RV.cellA rfl rfl ty41 rfl (Tk.lit rfl)) RVs.nil), (by (repeat' (first | exact all_mt | refine all_up ?_ ?_)) <;> rfl), ?_⟩
    exact ⟨⟨og, [], ⟨nv, nh, nl⟩, md, pf, -1, cc, cn, lc, ln, [], 0⟩, b1', ⟨hogb, hmd, (by simp), (by intro s hs; cases hs)⟩, rfl, rfl⟩
  ·
    obtain ⟨a10, ha10⟩ : ∃ b, nextAt l b1' = b := ⟨_, rfl⟩
    have n10 := next_any l b1' 256 (by decide) (by decide) hl
    obtain ⟨e10, he10⟩ : ∃ e10, nextV l b1' 256 = e10 := ⟨_, rfl⟩
    rw [he10, ha10] at n10
    repeat (refine W.seq ?_)
    refine W.region 128 130 (by decide) rfl rfl ?_
    refine RW.opd rfl rfl (LO.eql rfl rfl rfl) ?_
    refine RW.opd rfl rfl (LO.assign rfl rfl) ?_
    refine RW.nil ?_
    repeat (refine W.seq ?_)
    refine W.cond_f rfl (by first | rfl | assumption) ?_
    repeat (refine W.seq ?_)
    refine W.region 143 145 (by decide) rfl rfl ?_
    refine RW.opd rfl rfl (LO.eql rfl rfl rfl) ?_
    refine RW.opd rfl rfl (LO.assign rfl rfl) ?_
    refine RW.nil ?_
    repeat (refine W.seq ?_)
    refine W.cond_f rfl (by first | rfl | assumption) ?_
    repeat (refine W.seq ?_)
    refine W.region 160 162 (by decide) rfl rfl ?_
    refine RW.opd rfl rfl (LO.eql rfl rfl rfl) ?_
    refine RW.opd rfl rfl (LO.assign rfl rfl) ?_
    refine RW.nil ?_
    repeat (refine W.seq ?_)
    refine W.cond_f rfl (by first | rfl | assumption) ?_
    repeat (refine W.seq ?_)
    refine W.region 178 180 (by decide) rfl rfl ?_
    refine RW.opd rfl rfl (LO.eql rfl rfl rfl) ?_
    refine RW.opd rfl rfl (LO.assign rfl rfl) ?_
    refine RW.nil ?_
    repeat (refine W.seq ?_)
    refine W.cond_f rfl (by first | rfl | assumption) ?_
    repeat (refine W.seq ?_)
    refine W.region 200 202 (by decide) rfl rfl ?_
    refine RW.opd rfl rfl (LO.eql rfl rfl rfl) ?_
    refine RW.opd rfl rfl (LO.assign rfl rfl) ?_
    refine RW.nil ?_
    repeat (refine W.seq ?_)
    refine W.cond_f rfl (by first | rfl | assumption) ?_
    repeat (refine W.seq ?_)
    refine W.region 214 216 (by decide) rfl rfl ?_
    refine RW.opd rfl rfl (LO.eql rfl rfl rfl) ?_
    refine RW.opd rfl rfl (LO.assign rfl rfl) ?_
    refine RW.nil ?_
    repeat (refine W.seq ?_)
    refine W.cond_f rfl (by first | rfl | assumption) ?_
    repeat (refine W.seq ?_)
    refine W.region 236 238 (by decide) rfl rfl ?_
    refine RW.opd rfl rfl (LO.eql rfl rfl rfl) ?_
    refine RW.opd rfl rfl (LO.assign rfl rfl) ?_
    refine RW.nil ?_
    repeat (refine W.seq ?_)
    refine W.cond_f rfl (by first | rfl | assumption) ?_
    repeat (refine W.seq ?_)
    refine W.region 248 250 (by decide) rfl rfl ?_
    refine RW.opd rfl rfl (LO.eql rfl rfl rfl) ?_
    refine RW.opd rfl rfl (LO.assign rfl rfl) ?_
    refine RW.nil ?_
    repeat (refine W.seq ?_)
    refine W.cond_t rfl (by first | rfl | assumption) ?_
    repeat (refine W.seq ?_)
    refine W.region 254 262 (by decide) rfl rfl ?_
    refine RW.opd rfl rfl (LO.move rfl rfl) ?_
    refine RW.opd rfl rfl (LO.call1 (fr := []) rfl rfl (n10) fok22 (.own rfl rfl (.cons rfl (.pure rfl) .nil)) rfl rfl rfl (List.cons_ne_nil _ _) (by decide) rfl) ?_
    refine RW.opd rfl rfl (LO.conv rfl rfl ty3 ty5) ?_
    refine RW.opd rfl rfl (LO.buildSlice rfl ty78 ty5 (by decide) (by decide) (.cons rfl rfl rfl rfl (Sp.lit rfl) (.cons rfl rfl rfl rfl (Sp.lit rfl) .nil))) ?_
    refine RW.opd rfl rfl (LO.build_st rfl ty80 (.cons rfl rfl rfl rfl (Sp.lit rfl) (.cons rfl rfl rfl rfl (Sp.lit rfl) (.cons rfl rfl rfl rfl (Sp.lit rfl) .nil)))) ?_
    refine RW.opd rfl rfl (LO.buildSlice rfl ty39 ty80 (by decide) (by decide) (.cons rfl rfl rfl rfl (Sp.lit rfl) .nil)) ?_
    refine RW.opd rfl rfl (LO.fieldAddr rfl rfl ty41 rfl (by decide)) ?_
    refine RW.opn rfl rfl (LO.store rfl rfl rfl rfl rfl ty39 rfl (by decide) (Sp.lit rfl)) ?_
    refine RW.nil ?_
    refine W.frzc (q := 4) (j := 1) (r := 3) rfl rfl (by decide) rfl (ints_tk rfl) (intsC_pure _) (Sp.lit rfl) ?_
    refine W.frzc (q := 2) (j := 1) (r := 4) rfl rfl (by decide) rfl (Tk.lit rfl) rfl (Sp.lit rfl) ?_
    refine W.frzc (q := 259) (j := 2) (r := 257) rfl rfl (by decide) rfl (Tk.lit rfl) rfl (Sp.lit rfl) ?_
    refine W.frzc (q := 2) (j := 10) (r := 259) rfl rfl (by decide) rfl (Tk.lit rfl) rfl (Sp.lit rfl) ?_
    repeat (refine W.seq ?_)
    refine W.region 266 268 (by decide) rfl rfl ?_
    refine RW.opd rfl rfl (LO.load_agg rfl rfl rfl ty41 rfl (Tk.lit rfl)) ?_
    refine RW.opn rfl rfl (LO.store rfl rfl rfl rfl rfl ty41 rfl (by decide) (Sp.lit rfl)) ?_
    refine RW.nil ?_
    repeat (refine W.seq ?_)
    refine W.ret ⟨.inl rfl, _, (up mt 0 (some (deckC l a10))), (RVs.cons (RV.cellA rfl rfl ty41 rfl (Tk.lit rfl)) RVs.nil), (by (repeat' (first | exact all_mt | refine all_up ?_ ?_)) <;> rfl), ?_⟩
    exact ⟨⟨og, [(false, ps)], ⟨nv, nh, nl⟩, md, pf, -1, cc, cn, lc, ln, _, _⟩, a10, ⟨hogb, hmd, (by simp), (by intro s hs; simp at hs; subst hs; show ps.length ≤ 10; omega)⟩, rfl, rfl⟩
  ·
    repeat (refine W.seq ?_)
    refine W.region 128 130 (by decide) rfl rfl ?_
    refine RW.opd rfl rfl (LO.eql rfl rfl rfl) ?_
    refine RW.opd rfl rfl (LO.assign rfl rfl) ?_
    refine RW.nil ?_
    repeat (refine W.seq ?_)
    refine W.cond_f rfl (by first | rfl | assumption) ?_
    repeat (refine W.seq ?_)
    refine W.region 143 145 (by decide) rfl rfl ?_
    refine RW.opd rfl rfl (LO.eql rfl rfl rfl) ?_
    refine RW.opd rfl rfl (LO.assign rfl rfl) ?_
    refine RW.nil ?_
    repeat (refine W.seq ?_)
    refine W.cond_f rfl (by first | rfl | assumption) ?_
    repeat (refine W.seq ?_)
    refine W.region 160 162 (by decide) rfl rfl ?_
    refine RW.opd rfl rfl (LO.eql rfl rfl rfl) ?_
    refine RW.opd rfl rfl (LO.assign rfl rfl) ?_
    refine RW.nil ?_
    repeat (refine W.seq ?_)
    refine W.cond_f rfl (by first | rfl | assumption) ?_
    repeat (refine W.seq ?_)
    refine W.region 178 180 (by decide) rfl rfl ?_
    refine RW.opd rfl rfl (LO.eql rfl rfl rfl) ?_
    refine RW.opd rfl rfl (LO.assign rfl rfl) ?_
    refine RW.nil ?_
    repeat (refine W.seq ?_)
    refine W.cond_f rfl (by first | rfl | assumption) ?_
    repeat (refine W.seq ?_)
    refine W.region 200 202 (by decide) rfl rfl ?_
    refine RW.opd rfl rfl (LO.eql rfl rfl rfl) ?_
    refine RW.opd rfl rfl (LO.assign rfl rfl) ?_
    refine RW.nil ?_
    repeat (refine W.seq ?_)
    refine W.cond_f rfl (by first | rfl | assumption) ?_
    repeat (refine W.seq ?_)
    refine W.region 214 216 (by decide) rfl rfl ?_
    refine RW.opd rfl rfl (LO.eql rfl rfl rfl) ?_
    refine RW.opd rfl rfl (LO.assign rfl rfl) ?_
    refine RW.nil ?_
    repeat (refine W.seq ?_)
    refine W.cond_f rfl (by first | rfl | assumption) ?_
    repeat (refine W.seq ?_)
    refine W.region 236 238 (by decide) rfl rfl ?_
    refine RW.opd rfl rfl (LO.eql rfl rfl rfl) ?_
    refine RW.opd rfl rfl (LO.assign rfl rfl) ?_
    refine RW.nil ?_
    repeat (refine W.seq ?_)
    refine W.cond_f rfl (by first | rfl | assumption) ?_
    repeat (refine W.seq ?_)
    refine W.region 248 250 (by decide) rfl rfl ?_
    refine RW.opd rfl rfl (LO.eql rfl rfl rfl) ?_
    refine RW.opd rfl rfl (LO.assign rfl rfl) ?_
    refine RW.nil ?_
    repeat (refine W.seq ?_)
    refine W.cond_f rfl (by first | rfl | assumption) ?_
    refine W.skip ?_
    refine W.frzc (q := 4) (j := 1) (r := 3) rfl rfl (by decide) rfl (ints_tk rfl) (intsC_pure _) (Sp.lit rfl) ?_
    refine W.frzc (q := 2) (j := 1) (r := 4) rfl rfl (by decide) rfl (Tk.lit rfl) rfl (Sp.lit rfl) ?_
    refine W.nilc (q := 2) (j := 10) rfl rfl (Sp.lit rfl) ?_
    repeat (refine W.seq ?_)
    refine W.region 266 268 (by decide) rfl rfl ?_
    refine RW.opd rfl rfl (LO.load_agg rfl rfl rfl ty41 rfl (Tk.lit rfl)) ?_
    refine RW.opn rfl rfl (LO.store rfl rfl rfl rfl rfl ty41 rfl (by decide) (Sp.lit rfl)) ?_
    refine RW.nil ?_
    repeat (refine W.seq ?_)
    refine W.ret ⟨.inl rfl, _, (up mt 0 (some (deckC l b1'))), (RVs.cons (RV.cellA rfl rfl ty41 rfl (Tk.lit rfl)) RVs.nil), (by (repeat' (first | exact all_mt | refine all_up ?_ ?_)) <;> rfl), ?_⟩
    exact ⟨⟨og, [(false, ps)], ⟨nv, nh, nl⟩, md, pf, -1, cc, cn, lc, ln, [], 0⟩, b1', ⟨hogb, hmd, (by simp), (by intro s hs; simp at hs; subst hs; show ps.length ≤ 10; omega)⟩, rfl, rfl⟩
end Go.Proofs.Ytgklkocmimjifaa
