/-
  A request for the address of a port goes to this port.
-/
import Derived.Test.YtcidmiacfjdepaaDoorJr
import Derived.Test.YtcidmiacfjdepaaDoorJm
namespace Go.Proofs.YtcidmiacfjdepaaDoor
open Go.RowKit

theorem fbA_addr {a : Ad} (h6 : a.v6 = false) (hv : validA a.v6 a.hi a.lo = true) (h1 : U64 a.hi) (h2 : U64 a.lo) : fbA false (addrL a) = a := by
  unfold fbA addrL
  rw [fb_addrB hv h1 h2]
  obtain ⟨v, h, l⟩ := a
  dsimp only at h6
  subst h6
  rfl
theorem arp_back {a : Arp} (h1 : a.fm.length = 6) (h2 : a.tm.length = 6) (hop : a.op = 1 ∨ a.op = 2) (hv : arpV a = true) (u1 : U64 a.fr.hi ∧ U64 a.fr.lo) (u2 : U64 a.tt.hi ∧ U64 a.tt.lo) : arpOf (arpB a) = a ∧ arpE (arpB a) = 0 := by
  have hv0 := hv
  unfold arpV ip4 at hv
  simp only [Bool.and_eq_true, Bool.or_eq_true, Bool.not_eq_true'] at hv
  obtain ⟨_, ⟨e1, e2⟩, e3, e4⟩ := hv
  have l1 := addrL_len a.fr
  have l2 := addrL_len a.tt
  rw [e2] at l1
  rw [e4] at l2
  have f1 := fbA_addr e2 e1 u1.1 u1.2
  have f2 := fbA_addr e4 e3 u2.1 u2.2
  have hoo : bitV .or .i64 (IntKind.i64.wrap (0 * 2 ^ (min (8 : Int).toNat IntKind.i64.bits))) (IntKind.u8.wrap a.op) = a.op := by
    rcases hop with h | h <;> rw [h] <;> decide +kernel
  have key : arpOf (arpB a) = a := by
    obtain ⟨op, fm, fr, tm, tt⟩ := a
    dsimp only at *
    obtain ⟨m0, m1, m2, m3, m4, m5, rfl⟩ := six_of h1
    obtain ⟨n0, n1, n2, n3, n4, n5, rfl⟩ := six_of h2
    unfold arpB
    dsimp only
    generalize addrL fr = L1 at *
    generalize addrL tt = L2 at *
    match L1, l1, L2, l2 with
    | [x0, x1, x2, x3], _, [y0, y1, y2, y3], _ =>
      show (⟨bitV .or .i64 (IntKind.i64.wrap (0 * 2 ^ (min (8 : Int).toNat IntKind.i64.bits))) (IntKind.u8.wrap op), [m0, m1, m2, m3, m4, m5], fbA false [x0, x1, x2, x3], [n0, n1, n2, n3, n4, n5], fbA false [y0, y1, y2, y3]⟩ : Arp) = _
      rw [hoo, f1, f2]
  refine ⟨key, ?_⟩
  have hl : (arpB a).length = 28 := arpB_len h1 h2 e2 e4
  unfold arpE
  rw [if_neg (by omega), key, hv0]
  have ht : (arpB a).take 6 = [0, 1, 8, 0, 6, 4] := rfl
  rw [ht, if_pos (by unfold hdB; simp)]
theorem bound_of {ps : List Prt} {bs : List Bd} (hp : List.Perm bs (bdsOf ps)) {q : Prt} {a : Ad} (hq : q ∈ ps) (ha : a ∈ adsP q) (hu : ∀ p, p ∈ ps → a ∈ adsP p → p = q) : boundF bs a = some ⟨a, macOf q, q.id⟩ := by
  have hx : (⟨a, macOf q, q.id⟩ : Bd) ∈ bs := hp.mem_iff.2 (List.mem_flatMap.2 ⟨q, hq, List.mem_map.2 ⟨a, ha, rfl⟩⟩)
  have hall : ∀ b, b ∈ bs → b.ad = a → b = ⟨a, macOf q, q.id⟩ := fun b hb e => by
    obtain ⟨p, h1, h2⟩ := List.mem_flatMap.1 (hp.mem_iff.1 hb)
    obtain ⟨c, h3, rfl⟩ := List.mem_map.1 h2
    dsimp only at e
    subst e
    rw [hu p h1 h3]
  clear hp
  induction bs with
  | nil => cases hx
  | cons x l ih =>
    rw [show boundF (x :: l) a = if eqA x.ad a then some x else boundF l a from rfl]
    split
    · rename_i he
      rw [hall x (by simp) (eqA_iff.1 he)]
    · rename_i he
      rcases List.mem_cons.1 hx with h | h
      · rw [← h] at he
        exact absurd (eqA_iff.2 rfl) he
      · exact ih h fun b hb => hall b (by simp [hb])
theorem DbFine.uniq {l : List Int} {d : Db} (h : DbFine l d) {a : Ad} {p q : Prt} (hp : p ∈ allP d) (hq : q ∈ allP d) (h1 : a ∈ adsP p) (h2 : a ∈ adsP q) : p = q := by
  obtain ⟨i, hi, rfl⟩ := List.getElem_of_mem hp
  obtain ⟨j, hj, rfl⟩ := List.getElem_of_mem hq
  have hl := h.len
  rcases Nat.lt_trichotomy i j with hij | hij | hij
  · exact absurd h2 ((tags_ne (h.good i hi) (h.good j hj) (by omega) (by omega) (by omega)).2 a h1)
  · subst hij; rfl
  · exact absurd h1 ((tags_ne (h.good j hj) (h.good i hi) (by omega) (by omega) (by omega)).2 a h2)
def reqF (m : List Int) (a : Arp) : Fr := ⟨bcM, m, 0, 2054, arpB a⟩
theorem asks_req {m : List Int} {a : Arp} (h1 : a.fm.length = 6) (h2 : a.tm.length = 6) (hop : a.op = 1 ∨ a.op = 2) (hv : arpV a = true) (u1 : U64 a.fr.hi ∧ U64 a.fr.lo) (u2 : U64 a.tt.hi ∧ U64 a.tt.lo) : asksF (reqF m a) = (a.tt, true) := by
  obtain ⟨e1, e2⟩ := arp_back h1 h2 hop hv u1 u2
  unfold asksF reqF
  dsimp only
  rw [if_pos (by simp), if_pos e2, e1]
theorem v4_ok {n : Int} {p : Prt} (hg : PGood n p) (h0 : 1 ≤ n) (h1 : n ≤ 14) : ip4 p.v4 = true ∧ U64 p.v4.hi ∧ U64 p.v4.lo := by
  obtain ⟨e1, e2, e3, e4⟩ := (hg.ok h0 h1).cases4
  unfold ip4
  rw [e1, e2]
  exact ⟨rfl, e3, e4⟩
theorem v4_in {p : Prt} (h : p.v4 ≠ ⟨false, 0, 0⟩) : p.v4 ∈ adsP p ∧ ad1 p.v4 = [p.v4] := by
  have hz : ¬ zeroA p.v4 = true := fun e => h (eqA_iff.1 e)
  unfold adsP ad1
  rw [if_neg hz]
  simp
theorem macOf_mem {n : Int} {p : Prt} (hg : PGood n p) (h0 : 1 ≤ n) (h1 : n ≤ 14) : macOf p ∈ p.macs ∧ (macOf p).length = 6 ∧ IsB (macOf p) := by
  have hx : macOf p ∈ p.macs := by
    unfold macOf
    rcases hg.macs with e | e <;> rw [e] <;> simp
  have := (hg.ok h0 h1).macs _ hx
  exact ⟨hx, this.1, this.2.1⟩
theorem reqA_ok {m : List Int} {s d : Ad} (hs : ip4 s = true) (hd : ip4 d = true) : arpV (reqA m s d) = true := by
  unfold arpV reqA
  dsimp only
  rw [hs, hd]
  rfl
theorem grp_bc : grpE bcM = true := by decide +kernel
theorem DbFine.finds {l : List Int} {d : Db} (h : DbFine l d) {rs : List Rl} {bs : List Bd} (hp : List.Perm bs (bdsOf (allP d))) {i j : Nat} (hi : i < (allP d).length) (hj : j < (allP d).length) (_e1 : (allP d)[i].v4 ≠ ⟨false, 0, 0⟩) (e2 : (allP d)[j].v4 ≠ ⟨false, 0, 0⟩) :
    dlvF rs bs (allP d)[i].id (reqF (macOf (allP d)[i]) (reqA (macOf (allP d)[i]) (allP d)[i].v4 (allP d)[j].v4)) =
      if (allP d)[j].id = (allP d)[i].id then (0, zFr, 13) else ((allP d)[j].id, ⟨macOf (allP d)[j], macOf (allP d)[i], 0, 2054, arpB (reqA (macOf (allP d)[i]) (allP d)[i].v4 (allP d)[j].v4)⟩, 0) := by
  have hl := h.len
  have g1 := h.good i hi
  have g2 := h.good j hj
  obtain ⟨a1, a2⟩ := v4_ok g1 (by omega) (by omega)
  obtain ⟨b1, b2⟩ := v4_ok g2 (by omega) (by omega)
  have hm := macOf_mem g1 (by omega) (by omega)
  have hb := bound_of hp (List.getElem_mem hj) (v4_in e2).1 (fun p hpm hpa => h.uniq hpm (List.getElem_mem hj) hpa (v4_in e2).1)
  have ha := asks_req (m := macOf (allP d)[i]) (a := reqA (macOf (allP d)[i]) (allP d)[i].v4 (allP d)[j].v4) hm.2.1 rfl (.inl rfl) (reqA_ok a1 b1) a2 b2
  generalize (allP d)[i] = p at *
  generalize (allP d)[j] = q at *
  have ht : tgtF rs bs (reqF (macOf p) (reqA (macOf p) p.v4 q.v4)) = (q.id, macOf q, true) := by
    unfold tgtF
    rw [if_pos (show grpE (reqF (macOf p) (reqA (macOf p) p.v4 q.v4)).dst = true from grp_bc), ha]
    unfold boundP
    dsimp only [reqA]
    rw [hb]
    rfl
  unfold dlvF
  rw [ht]
  by_cases e : q.id = p.id
  · rw [if_pos (.inr e), if_pos e]
  · rw [if_neg (by rintro (h | h); · cases h
                   · exact e h), if_neg e]
    rfl
end Go.Proofs.YtcidmiacfjdepaaDoor
