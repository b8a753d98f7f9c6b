/-
  Words for drawn regions: loads of messages, stations, addresses.
-/
import Derived.Test.YtopkbpigaengeaaDoorAw
import Derived.Deep.CutBlock
import Derived.ChangeKeysEq
namespace Go.Proofs.YtopkbpigaengeaaDoor
open Go.RowKit

section
variable {P : Program} {a0 : Act} {A : Nat → Value → World → Prop} {R : World → Prop} {S : World → World → Prop} {D : List Nat} {G : List (Option Bool)} {ds : List (Option Tmp)} {i : Nat} {o : Oper}
theorem StepG.run (h : runsG G o = true) (H : ∀ (r : Operand → Value) (w : World), R w → (∀ v, r (.const v) = v) → ((∀ f, r (.func f) = .func (.func f) #[] #[]) ∧ ∀ g, r (.global g) = .pointer (some ⟨g, 0, none⟩)) →
    (∀ t, ds.contains (some t) = false → r (.tmp t) = a0.eval (.tmp t)) → KnownL A ds r w o.after.toList →
    ∀ K : Value → World → Prop, (∀ x w', R w' → S w w' → A i x w' → (D.contains i = true → FreshP w x) → K x w') → OpV P o r w K) : StepG P a0 A R S D G ds i o := by
  unfold StepG
  rw [if_pos h]
  exact H
theorem StepG.skip (h : runsG G o = false) (H : ∀ w, R w → A i undef w) : StepG P a0 A R S [] G ds i o := by
  unfold StepG
  rw [if_neg (by rw [h]; simp)]
  exact ⟨H, rfl⟩
theorem noD {i : Nat} {w : World} {x : Value} (h : ([] : List Nat).contains i = true) : FreshP w x := by simp at h
theorem opv_load_row {w : World} {r : Operand → Value} {K : Value → World → Prop} (ty : TypeId) (x : Operand) (ho : o.op = .load ty x) (g : Nat) (hx : r x = .pointer (some ⟨g, 0, none⟩)) (t : TypeId) (cs : Array Value) (d : TypeDesc) (hg : Blk w g t cs)
    (hu : P.underlying ty = some d) (hd : (match d with | .struct _ | .array _ _ => true | _ => false) = true) (hi : (P.info? ty).map (·.size) = some cs.size) (h : K (.agg cs) w) : OpV P o r w K := by
  unfold OpV execOp
  simp only [ho, hx, Instr.loadAt, Instr.sureAddr, Sem.run_bind, Sem.run_pure, Result.andThen_ok, run_loadVar_row w g t ty cs (0, 0) d hg hu hd hi]
  exact h
end
theorem Tryd.sizeMac : (Tryd.prog.info? 24).map (·.size) = some 6 := by kernel_rfl
theorem Tryd.sizeAd : (Tryd.prog.info? 27).map (·.size) = some 3 := by kernel_rfl
section
variable {o : Oper} {w : World} {r : Operand → Value} {K : Value → World → Prop}
theorem opv_arp (x : Operand) (ho : o.op = .load 29 x) (g : Nat) (m : Msg) (hx : r x = .pointer (some ⟨g, 0, none⟩)) (hb : Blk w g 29 (arpC m)) (h : K (arpV m) w) : OpV Tryd.prog o r w K :=
  opv_load_row 29 x ho g hx 29 (arpC m) _ hb Tryd.underlying29 rfl Tryd.sizeArp h
theorem opv_mac (x : Operand) (ho : o.op = .load 24 x) (g : Nat) (m : Mac) (hx : r x = .pointer (some ⟨g, 0, none⟩)) (hb : Blk w g 24 (macC m)) (h : K (macV m) w) : OpV Tryd.prog o r w K :=
  opv_load_row 24 x ho g hx 24 (macC m) _ hb Tryd.underlying24 rfl Tryd.sizeMac h
theorem opv_ad (x : Operand) (ho : o.op = .load 27 x) (g : Nat) (m : Ad) (hx : r x = .pointer (some ⟨g, 0, none⟩)) (hb : Blk w g 27 (adC m)) (h : K (adV m) w) : OpV Tryd.prog o r w K :=
  opv_load_row 27 x ho g hx 27 (adC m) _ hb Tryd.underlying27 rfl Tryd.sizeAd h
end

theorem mac_same (d : Nat) (m : Mac) (w : World) : (Op.equalIn (d + 2) 24 (macV m) (macV m)).run Tryd.prog w = .ok true w := by
  obtain ⟨i, hi, _⟩ := info_parts Tryd.infoU8
  have hc : Tryd.prog.cellsOf 5 = 1 := by kernel_rfl
  unfold macV
  rw [run_equalIn_array w (d + 1) (e := 5) (n := 6) _ _ Tryd.underlying24 hi, hc]
  show (Op.eqItems (d + 1) 5 1 _ _ [0, 1, 2, 3, 4, 5]).run Tryd.prog w = _
  simp only [Op.eqItems]
  go_simp
theorem arp_neq (m : Msg) (w : World) : (binOp .neq 29 (arpV m) (arpV m)).run Tryd.prog w = .ok (.bool false) w := by
  have h := fun m w => mac_same 9997 m w
  unfold macV at h
  unfold arpV
  go_simp
theorem arp_eql (m : Msg) (w : World) : (binOp .eql 29 (arpV m) (arpV m)).run Tryd.prog w = .ok (.bool true) w := by
  have h := fun m w => mac_same 9997 m w
  unfold macV at h
  unfold arpV
  go_simp
theorem own_open {w : World} {base : Nat} {v : Value} {n : Nat} {xs : List Int} (h : w.ownsRow base 5 1 v n (bytesV xs)) (hn : 0 < n) :
    ∃ (g cap : Nat) (cur : Array Value), v = .slice (some ⟨g, 0, none⟩) n cap ∧ base ≤ g ∧ w.heap[g]? = some (.cells cur 5 (0, 0)) ∧ n ≤ cap ∧ cap ≤ maxLen ∧ cur.size = cap ∧ cur.toList.take n = bytesV xs := by
  rcases h.2 with ⟨_, e⟩ | ⟨g, cap, cur, h1, h2, h3, h4, h5, h6, h7⟩
  · omega
  · exact ⟨g, cap, cur, h1, h2, h3, h4, h5, by omega, by simpa using h7⟩
theorem load_arp_w {ops : Array Oper} {rest : List Oper} {o : Oper} {a : Act} {w : World} {Q : Exit → Act → World → Prop} (hw : Region.wanted o (yielded ops a.tmps) = true) (x : Operand) (ho : o.op = .load 29 x) (g : Nat) (m : Msg) (hx : a.eval x = .pointer (some ⟨g, 0, none⟩)) (hb : Blk w g 29 (arpC m))
    (h : wpList Tryd.prog ops Q rest (a.put o.dst (arpV m)) w) : wpList Tryd.prog ops Q (o :: rest) a w := by
  unfold wpList
  rw [if_pos hw]
  exact Or.inl (wp_load_row 29 x ho g hx 29 (arpC m) (0, 0) _ hb Tryd.underlying29 rfl Tryd.sizeArp h)
theorem arp_guard (m q : Msg) (x y : Operand) (w : World) : (eqGuard .eql 29 x y (arpV m) (arpV q)).run Tryd.prog w = .ok () w := by
  unfold arpV
  go_simp
theorem arp_guardn (m q : Msg) (x y : Operand) (w : World) : (eqGuard .neq 29 x y (arpV m) (arpV q)).run Tryd.prog w = .ok () w := by
  unfold arpV
  go_simp
end Go.Proofs.YtopkbpigaengeaaDoor
