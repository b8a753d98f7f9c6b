/-
  The walk of ArpAnswers: what requests and replies are.
-/
import Derived.Test.YtopkbpigaengeaaDoorAw
import Derived.Deep.CutBlock
import Derived.ChangeKeysEq
namespace Go.Proofs.YtopkbpigaengeaaDoor
open Go.RowKit

section
variable {P : Program} {a0 : Act} {A : Nat → Value → World → Prop} {R : World → Prop} {S : World → World → Prop} {D : List Nat} {G : List (Option Bool)} {ds : List (Option Tmp)} {i : Nat} {o : Oper}
theorem StepG.run (h : runsG G o = true) (H : ∀ (r : Operand → Value) (w : World), R w → (∀ v, r (.const v) = v) → ((∀ f, r (.func f) = .func (.func f) #[] #[]) ∧ ∀ g, r (.global g) = .pointer (some ⟨g, 0, none⟩)) →
    (∀ t, ds.contains (some t) = false → r (.tmp t) = a0.eval (.tmp t)) → KnownL A ds r w o.after.toList →
    ∀ K : Value → World → Prop, (∀ x w', R w' → S w w' → A i x w' → (D.contains i = true → FreshP w x) → K x w') → OpV P o r w K) : StepG P a0 A R S D G ds i o := by
  unfold StepG
  rw [if_pos h]
  exact H
theorem noD {i : Nat} {w : World} {x : Value} (h : ([] : List Nat).contains i = true) : FreshP w x := by simp at h
theorem opv_load_row {w : World} {r : Operand → Value} {K : Value → World → Prop} (ty : TypeId) (x : Operand) (ho : o.op = .load ty x) (g : Nat) (hx : r x = .pointer (some ⟨g, 0, none⟩)) (t : TypeId) (cs : Array Value) (d : TypeDesc) (hg : Blk w g t cs)
    (hu : P.underlying ty = some d) (hd : (match d with | .struct _ | .array _ _ => true | _ => false) = true) (hi : (P.info? ty).map (·.size) = some cs.size) (h : K (.agg cs) w) : OpV P o r w K := by
  unfold OpV execOp
  simp only [ho, hx, Instr.loadAt, Instr.sureAddr, Sem.run_bind, Sem.run_pure, Result.andThen_ok, run_loadVar_row w g t ty cs (0, 0) d hg hu hd hi]
  exact h
end
theorem Tryd.sizeMac : (Tryd.prog.info? 24).map (·.size) = some 6 := by kernel_rfl
theorem Tryd.sizeAd : (Tryd.prog.info? 27).map (·.size) = some 3 := by kernel_rfl
section
variable {o : Oper} {w : World} {r : Operand → Value} {K : Value → World → Prop}
theorem opv_arp (x : Operand) (ho : o.op = .load 29 x) (g : Nat) (m : Msg) (hx : r x = .pointer (some ⟨g, 0, none⟩)) (hb : Blk w g 29 (arpC m)) (h : K (arpV m) w) : OpV Tryd.prog o r w K :=
  opv_load_row 29 x ho g hx 29 (arpC m) _ hb Tryd.underlying29 rfl Tryd.sizeArp h
theorem opv_mac (x : Operand) (ho : o.op = .load 24 x) (g : Nat) (m : Mac) (hx : r x = .pointer (some ⟨g, 0, none⟩)) (hb : Blk w g 24 (macC m)) (h : K (macV m) w) : OpV Tryd.prog o r w K :=
  opv_load_row 24 x ho g hx 24 (macC m) _ hb Tryd.underlying24 rfl Tryd.sizeMac h
theorem opv_ad (x : Operand) (ho : o.op = .load 27 x) (g : Nat) (m : Ad) (hx : r x = .pointer (some ⟨g, 0, none⟩)) (hb : Blk w g 27 (adC m)) (h : K (adV m) w) : OpV Tryd.prog o r w K :=
  opv_load_row 27 x ho g hx 27 (adC m) _ hb Tryd.underlying27 rfl Tryd.sizeAd h
end

/-- what lies in memory all along -/
structure Lies (B : Nat) (f c : Mac) (s d : Ad) (q : Msg) (kq : Nat) (m : Msg) (km : Nat) (w : World) : Prop where
  bf : Blk w B 24 (macC f)
  bc : Blk w (B + 1) 24 (macC c)
  bs : Blk w (B + 1 + 1) 27 (adC s)
  bd : Blk w (B + 1 + 1 + 1) 27 (adC d)
  bq : Blk w kq 29 (arpC q)
  bm : Blk w km 29 (arpC m)
theorem Lies.ext {B : Nat} {f c : Mac} {s d : Ad} {q : Msg} {kq : Nat} {m : Msg} {km : Nat} {w w' : World} (h : Lies B f c s d q kq m km w) (e : Ext w w') : Lies B f c s d q kq m km w' :=
  ⟨h.bf.below e h.bf.lt, h.bc.below e h.bc.lt, h.bs.below e h.bs.lt, h.bd.below e h.bd.lt, h.bq.below e h.bq.lt, h.bm.below e h.bm.lt⟩
def repM (m : Msg) (c : Mac) : Msg := ⟨2, c, m.da, m.fm, m.sa⟩

/-- the facts of the region that makes both replies -/
def repF (r0 : Nat) (c : Mac) (q m : Msg) : List (Fact (fun _ => False)) :=
  [.is (arpV q), .is (macV c), .is (arpV (repM q c)), .is (arpV m), .is (macV c), .is (arpV (repM m c)), .blk r0 29 (arpC msg0), .blk r0 29 (arpC msg0)]
/-- the facts of the region that compares -/
def cmpF (f c : Mac) (s d : Ad) (q m : Msg) : List (Fact (fun _ => False)) :=
  [.is (arpV q), .is (macV f), .is (adV s), .is (adV d), .is (arpV q), .is (.bool false), .is (.bool false),
   .is (arpV (repM q c)), .is (arpV q), .is (macV c), .is (arpV (repM q c)), .is (.bool false), .is (.bool false), .is (.bool false),
   .is (arpV (repM m c)), .is (arpV m), .is (macV c), .is (arpV (repM m c)), .is (.bool false), .is (.bool false), .is (.bool false),
   .is (arpV m), .is (.bool (ownB m)), .is (arpV m), .is (.bool (ownB m)), .is (.bool false), .is (.bool false), .is (.bool false),
   .is (macV f), .is (adV s), .is (adV s), .is (arpV ⟨1, f, s, mac0, s⟩), .is (.bool true), .is (.bool false), .is (.bool false)]
def cmpG : List (Option Bool) := [none, none, none, none, none, none, some false, none, none, none, none, none, none, some false, none, none, none, none, none, none, some false, none, none, none, none, none, none, some false]

theorem mac_same (d : Nat) (m : Mac) (w : World) : (Op.equalIn (d + 2) 24 (macV m) (macV m)).run Tryd.prog w = .ok true w := by
  obtain ⟨i, hi, _⟩ := info_parts Tryd.infoU8
  have hc : Tryd.prog.cellsOf 5 = 1 := by kernel_rfl
  unfold macV
  rw [run_equalIn_array w (d + 1) (e := 5) (n := 6) _ _ Tryd.underlying24 hi, hc]
  show (Op.eqItems (d + 1) 5 1 _ _ [0, 1, 2, 3, 4, 5]).run Tryd.prog w = _
  simp only [Op.eqItems]
  go_simp
theorem arp_neq (m : Msg) (w : World) : (binOp .neq 29 (arpV m) (arpV m)).run Tryd.prog w = .ok (.bool false) w := by
  have h := fun m w => mac_same 9997 m w
  unfold macV at h
  unfold arpV
  go_simp
theorem ownB_self (f : Mac) (s : Ad) : ownB ⟨1, f, s, mac0, s⟩ = true := by simp [ownB]

def AnsAt (w0 : World) (c : Mac) (q m : Msg) (v13 v14 : Value) (wx : World) : Prop :=
  ∃ k1 k2, v13 = .pointer (some ⟨k1, 0, none⟩) ∧ v14 = .pointer (some ⟨k2, 0, none⟩) ∧ Blk wx k1 29 (arpC (repM q c)) ∧ Blk wx k2 29 (arpC (repM m c)) ∧ Ext w0 wx

theorem two_sets {w0 wq : World} {c : Mac} {q m : Msg} {k1 k2 : Nat} (hE : Ext w0 wq) (h1 : Blk wq k1 29 (arpC msg0)) (h2 : Blk wq k2 29 (arpC msg0)) (l1 : w0.heap.size ≤ k1) (l2 : w0.heap.size ≤ k2) (hne : ¬ k1 = k2) :
    AnsAt w0 c q m (.pointer (some ⟨k1, 0, none⟩)) (.pointer (some ⟨k2, 0, none⟩)) ((wq.setRow k1 (arpC (repM q c))).setRow k2 (arpC (repM m c))) := by
  have a1 := h1.setRow (arpC (repM q c))
  have a2 := h2.kept (keep_setRow (X := (· = k1)) rfl (arpC (repM q c))) (fun e => hne e.symm)
  have e1 := Ext.keep hE (keep_setRow (X := (· = k1)) rfl (arpC (repM q c))) l1
  exact ⟨k1, k2, rfl, rfl, a1.kept (keep_setRow (X := (· = k2)) rfl _) hne, a2.setRow _, Ext.keep e1 (keep_setRow (X := (· = k2)) rfl _) l2⟩

def LawPost (w : World) (e : Ending) (w' : World) : Prop := e = .returned (.bool true) ∧ Ext w w'

set_option maxRecDepth 100000 in
set_option maxHeartbeats 8000000 in
theorem answers_main (f c : Mac) (s d : Ad) (L : Option Addr) (len k : Nat) (zs : List Int) (w : World) (hh : HeadAt w) (hlen : len ≤ 9223372036854775807) (hz : Reads w w.heap.size 1 L len (zs.map (Value.int .i64))) :
    Calls Tryd.prog 3 #[.slice L len k, macV f, macV c, adV s, adV d] w (LawPost w) := by
  unfold macV adV
  have hE0 : Ext w ((((w.alloc (.cells (macC f) 24)).alloc (.cells (macC c) 24)).alloc (.cells (adC s) 27)).alloc (.cells (adC d) 27)) := ((((Ext.refl w).alloc _).alloc _).alloc _).alloc _
  have b0 : Blk ((((w.alloc (.cells (macC f) 24)).alloc (.cells (macC c) 24)).alloc (.cells (adC s) 27)).alloc (.cells (adC d) 27)) w.heap.size 24 (macC f) := (((Blk.new _ _ _).alloc _).alloc _).alloc _
  have b1 : Blk ((((w.alloc (.cells (macC f) 24)).alloc (.cells (macC c) 24)).alloc (.cells (adC s) 27)).alloc (.cells (adC d) 27)) (w.heap.size + 1) 24 (macC c) := by
    have := ((Blk.new (w.alloc (.cells (macC f) 24)) 24 (macC c)).alloc (.cells (adC s) 27)).alloc (.cells (adC d) 27)
    rwa [World.size_alloc] at this
  have b2 : Blk ((((w.alloc (.cells (macC f) 24)).alloc (.cells (macC c) 24)).alloc (.cells (adC s) 27)).alloc (.cells (adC d) 27)) (w.heap.size + 1 + 1) 27 (adC s) := (new2 w _ _ _ _).alloc _
  have b3 : Blk ((((w.alloc (.cells (macC f) 24)).alloc (.cells (macC c) 24)).alloc (.cells (adC s) 27)).alloc (.cells (adC d) 27)) (w.heap.size + 1 + 1 + 1) 27 (adC d) := new3 w _ _ _ _ _
  have HS : Hid (((((w.alloc (.cells (macC f) 24)).alloc (.cells (macC c) 24)).alloc (.cells (adC s) 27)).alloc (.cells (adC d) 27)).heap.size = w.heap.size + 1 + 1 + 1 + 1) := Lib.hid (by simp)
  go_enter Tryd.func3, Tryd.ntmps3
  go_wp2_with fail
  refine (req_any f s d _).mono ?_
  rintro e w1 ⟨rfl, hE1⟩
  have a0 := b0.below hE1 b0.lt
  have a1 := b1.below hE1 b1.lt
  have a2 := b2.below hE1 b2.lt
  have a3 := b3.below hE1 b3.lt
  have hE2 : Ext w (w1.alloc (.cells (arpC msg0) 29)) := (hE0.trans hE1).alloc _
  have hq0 : Blk (w1.alloc (.cells (arpC msg0) 29)) w1.heap.size 29 (arpC msg0) := Blk.new _ _ _
  have hs1 := hE1.size
  clear b0 b1 b2 b3 hE0 hE1
  obtain ⟨q, hq⟩ : ∃ q : Msg, q = ⟨1, f, s, mac0, d⟩ := ⟨_, rfl⟩
  rw [← hq]
  have Hq := Lib.hid hq
  clear hq
  have HB := Lib.hid hq0
  go_wp2_with (refine store_arp rfl (.tmp 11) (.tmp 18) rfl rfl w1.heap.size q msg0 rfl rfl HB.out ?_)
  have hE3 : Ext w ((w1.alloc (.cells (arpC msg0) 29)).setRow w1.heap.size (arpC q)) := Ext.keep hE2 (keep_setRow (X := (· = w1.heap.size)) rfl _) (by have := a0.lt; omega)
  have hk3 : Keep (· = w1.heap.size) w1 ((w1.alloc (.cells (arpC msg0) 29)).setRow w1.heap.size (arpC q)) := ((Keep.refl _ _).alloc _).trans (keep_setRow (X := (· = w1.heap.size)) rfl _)
  have hq3 := hq0.setRow (arpC q)
  refine (new_any L len k zs _ hlen (hz.ext hE3)).mono ?_
  rintro e w2 ⟨rfl, hdk, hb2, hz2⟩
  simp only [size_setRow, World.size_alloc] at hdk hb2 hz2
  have hE4 : Ext w w2 := hE3.trans (hb2.mono (by simp))
  have hq4 := hq3.below hb2 (by omega)
  have c0 := (a0.kept hk3 (by have := a0.lt; omega)).below hb2 (by have := a0.lt; omega)
  have c1 := (a1.kept hk3 (by have := a1.lt; omega)).below hb2 (by have := a1.lt; omega)
  have c2 := (a2.kept hk3 (by have := a2.lt; omega)).below hb2 (by have := a2.lt; omega)
  have c3 := (a3.kept hk3 (by have := a3.lt; omega)).below hb2 (by have := a3.lt; omega)
  have l3 := a3.lt
  clear hE3 hk3 hq3 hq0 HB a0 a1 a2 a3 hb2 hz2 hE2
  go_wp2_with fail
  refine (message_any _ _ _ hdk).mono ?_
  rintro e w3 ⟨m, rfl, hm, hK, _⟩
  have hE5 : Ext w w3 := Ext.keep hE4 hK (by omega)
  have hq5 := hq4.kept hK (by omega)
  have d0 := c0.kept hK (by omega)
  have d1 := c1.kept hK (by omega)
  have d2 := c2.kept hK (by omega)
  have d3 := c3.kept hK (by omega)
  have hl3 := hq5.lt
  clear hE4 hq4 c0 c1 c2 c3 hdk hK
  have hm0 : Blk (w3.alloc (.cells (arpC msg0) 29)) w3.heap.size 29 (arpC msg0) := Blk.new _ _ _
  have HB := Lib.hid hm0
  go_wp2_with (refine store_arp rfl (.tmp 12) (.tmp 21) rfl rfl w3.heap.size m msg0 rfl rfl HB.out ?_)
  have hk6 : Keep (· = w3.heap.size) w3 ((w3.alloc (.cells (arpC msg0) 29)).setRow w3.heap.size (arpC m)) := ((Keep.refl _ _).alloc _).trans (keep_setRow (X := (· = w3.heap.size)) rfl _)
  have hE6 : Ext w ((w3.alloc (.cells (arpC msg0) 29)).setRow w3.heap.size (arpC m)) := Ext.keep hE5 hk6 (by have := d0.lt; omega)
  have hL : Lies w.heap.size f c s d q w1.heap.size m w3.heap.size ((w3.alloc (.cells (arpC msg0) 29)).setRow w3.heap.size (arpC m)) :=
    ⟨d0.kept hk6 (by have := d0.lt; omega), d1.kept hk6 (by have := d1.lt; omega), d2.kept hk6 (by have := d2.lt; omega), d3.kept hk6 (by have := d3.lt; omega), hq5.kept hk6 (by omega), hm0.setRow _⟩
  obtain ⟨w4, hw4⟩ : ∃ w4, w4 = (w3.alloc (.cells (arpC msg0) 29)).setRow w3.heap.size (arpC m) := ⟨_, rfl⟩
  have hw4' : (w3.alloc (.cells #[.int .i64 0, .int .u8 0, .int .u8 0, .int .u8 0, .int .u8 0, .int .u8 0, .int .u8 0, .bool false, .int .u64 0, .int .u64 0, .int .u8 0, .int .u8 0, .int .u8 0, .int .u8 0, .int .u8 0, .int .u8 0, .bool false, .int .u64 0, .int .u64 0] 29)).setRow w3.heap.size (arpC m) = w4 := hw4.symm
  rw [hw4']
  rw [← hw4] at hE6 hL
  clear hw4 hw4' hk6 hm0 HB hE5 hq5 d0 d1 d2 d3 l3
  go_wp2_with fail
  go_cut [13, 14] (fun v13 v14 wx => AnsAt w4 c q m v13 v14 wx)
  case first =>
    refine wp_region_gfacts (by kernel_rfl) 8 [some 22, some 23, some 24, some 25, some 26, some 27, some 13, some 14] rfl rfl (fun _ => False) (repF w4.heap.size c q m) (fun wq => Keep (fun _ => False) w4 wq) [6, 7] [] 96 (by kernel_rfl) (by kernel_rfl) (by kernel_rfl) (by kernel_rfl) (by kernel_rfl) (by kernel_rfl) rfl (by kernel_rfl) (by kernel_rfl) trivial ⟨⟨_, _, _, rfl⟩, ⟨_, _, _, rfl⟩, trivial⟩ (Keep.refl _ _).drew ?_ ?_
    · intro x wq hR hA hD
      obtain ⟨-, -, e2, -, -, e5, ⟨k1, e6, -, b1, l1⟩, ⟨k2, e7, -, b2, l2⟩, -⟩ := hA
      have hne : ¬ k1 = k2 := by
        intro e
        refine hD 6 7 (by decide) (by decide) (by decide) rfl rfl ?_
        simp only [Nat.zero_add, Nat.reduceAdd] at e6 e7
        rw [e6, e7, e]
      simp only [Nat.zero_add, Nat.reduceAdd] at e2 e5 e6 e7
      replace e2 : x 2 = arpV (repM q c) := e2
      replace e5 : x 5 = arpV (repM m c) := e5
      simp only [fillL, Nat.zero_add, Nat.reduceAdd, Act.put, List.setIfInBounds_toArray, List.set_cons_succ, List.set_cons_zero, List.drop_succ_cons, List.drop_zero, e2, e5, e6, e7]
      clear e2 e5 e6 e7 hD
      have hEq : Ext w4 wq := hR.below (Nat.le_refl _) (fun _ h => h.elim)
      have hb2' := b2.kept (keep_setRow (w := wq) (g := k1) (X := (· = k1)) rfl (arpC (repM q c))) (fun e => hne e.symm)
      have HB1 := Lib.hid b1
      have HB2 := Lib.hid hb2'
      go_wp2_with (first
        | (refine store_arp rfl (.tmp 13) (.tmp 24) rfl rfl k1 (repM q c) msg0 rfl rfl HB1.out ?_)
        | (refine store_arp rfl (.tmp 14) (.tmp 27) rfl rfl k2 (repM m c) msg0 rfl rfl HB2.out ?_))
      go_meet
      exact two_sets hEq b1 b2 l1 l2 hne
    · refine EachOp.cons ?_ (EachOp.cons ?_ (EachOp.cons ?_ (EachOp.cons ?_ (EachOp.cons ?_ (EachOp.cons ?_ (EachOp.cons ?_ (EachOp.cons ?_ EachOp.nil)))))))
      all_goals (refine StepG.run rfl fun r wq hR hc hf ho hk K hK => ?_)
      · exact opv_arp (.tmp 11) rfl w1.heap.size q (ho 11 rfl) (hL.ext (hR.below (Nat.le_refl _) (fun _ h => h.elim))).bq (hK _ _ hR (Keep.refl _ _) rfl (fun h => by simp at h))
      · exact opv_mac (.tmp 7) rfl (w.heap.size + 1) c (ho 7 rfl) (hL.ext (hR.below (Nat.le_refl _) (fun _ h => h.elim))).bc (hK _ _ hR (Keep.refl _ _) rfl (fun h => by simp at h))
      · have h0 : r (.tmp 22) = arpV q := hk.1
        have h1 : r (.tmp 23) = macV c := hk.2.1
        unfold OpV; go_simp
        refine (rep_any q c _).mono ?_
        rintro e w2 ⟨rfl, hE⟩
        exact ⟨_, rfl, hK _ _ (hR.trans (Keep.of_below hE)) (Keep.of_below hE) rfl (fun h => by simp at h)⟩
      · exact opv_arp (.tmp 12) rfl w3.heap.size m (ho 12 rfl) (hL.ext (hR.below (Nat.le_refl _) (fun _ h => h.elim))).bm (hK _ _ hR (Keep.refl _ _) rfl (fun h => by simp at h))
      · exact opv_mac (.tmp 7) rfl (w.heap.size + 1) c (ho 7 rfl) (hL.ext (hR.below (Nat.le_refl _) (fun _ h => h.elim))).bc (hK _ _ hR (Keep.refl _ _) rfl (fun h => by simp at h))
      · have h0 : r (.tmp 25) = arpV m := hk.1
        have h1 : r (.tmp 26) = macV c := hk.2.1
        unfold OpV; go_simp
        refine (rep_any m c _).mono ?_
        rintro e w2 ⟨rfl, hE⟩
        exact ⟨_, rfl, hK _ _ (hR.trans (Keep.of_below hE)) (Keep.of_below hE) rfl (fun h => by simp at h)⟩
      · unfold OpV; go_simp
        exact hK _ _ (hR.alloc _) ((Keep.refl _ _).alloc _) ⟨wq.heap.size, rfl, (fun h => h), Blk.new _ _ _, hR.size⟩ (fun _ => ⟨wq.heap.size, 0, rfl, Nat.le_refl _⟩)
      · unfold OpV; go_simp
        exact hK _ _ (hR.alloc _) ((Keep.refl _ _).alloc _) ⟨wq.heap.size, rfl, (fun h => h), Blk.new _ _ _, hR.size⟩ (fun _ => ⟨wq.heap.size, 0, rfl, Nat.le_refl _⟩)
  case rest =>
    obtain ⟨k1, k2, rfl, rfl, b1, b2, hx⟩ := hcut
    obtain ⟨wo, rfl⟩ : ∃ wo : World, wo = wc := ⟨_, rfl⟩
    replace hL := hL.ext hx
    have hE7 := hE6.trans hx
    have hho := hh.ext hE7
    clear hx hE6 hs1 hl3
    go_wp2_with fail
    refine wp_region_gfacts (by kernel_rfl) 35 [some 28, some 29, some 30, some 31, some 32, some 33, some 34, some 35, some 36, some 37, some 38, some 39, some 40, some 41, some 42, some 43, some 44, some 45, some 46, some 47, some 48, some 49, some 50, some 51, some 52, some 53, some 54, some 55, some 56, some 57, some 58, some 59, some 60, some 61, some 62] rfl rfl (fun _ => False) (cmpF f c s d q m) (fun wq => Keep (fun _ => False) wo wq) [] cmpG 96 (by kernel_rfl) (by kernel_rfl) (by kernel_rfl) (by kernel_rfl) (by kernel_rfl) (by kernel_rfl) rfl (by kernel_rfl) (by kernel_rfl) ⟨rfl, rfl, rfl, rfl, trivial⟩ trivial (Keep.refl _ _).drew ?_ ?_
    · intro x wq hR hA _
      have e34 : x 34 = .bool false := hA.2.2.2.2.2.2.2.2.2.2.2.2.2.2.2.2.2.2.2.2.2.2.2.2.2.2.2.2.2.2.2.2.2.2.1
      simp only [fillL, Nat.zero_add, Nat.reduceAdd, Act.put, List.setIfInBounds_toArray, List.set_cons_succ, List.set_cons_zero, List.drop_succ_cons, List.drop_zero, e34]
      clear hA e34
      have hEq : Ext wo wq := hR.below (Nat.le_refl _) (fun _ h => h.elim)
      have hL2 := hL.ext hEq
      obtain ⟨g0, g1, g2, g3, g4, g5, g6, g7, g8, g9, g10, g11, g12, g13, g14, g15, g16, g17, g18, gf⟩ := arp_cells (b2.below hEq b2.lt)
      obtain ⟨p0, p1, p2, p3, p4, p5, p6, p7, p8, p9, p10, p11, p12, p13, p14, p15, p16, p17, p18, pf⟩ := arp_cells hL2.bm
      have q0 := hL2.bc.cell 0
      have q1 := hL2.bc.cell 1
      have q2 := hL2.bc.cell 2
      have q3 := hL2.bc.cell 3
      have q4 := hL2.bc.cell 4
      have q5 := hL2.bc.cell 5
      have hmac := fun (x : Mac) (w : World) => mac_same 9998 x w
      unfold macV at hmac
      simp only [repM] at g0 g1 g2 g3 g4 g5 g6 g7 g8 g9 g10 g11 g12 g13 g14 g15 g16 g17 g18
      simp only [macC] at q0 q1 q2 q3 q4 q5
      have hE8 := hE7.trans hEq
      have hho2 := hho.ext hEq
      have HL := Lib.hid hL2
      clear hL2 hL hEq hE7 hho b1 b2
      go_wp2_with (refine (awake_any _ hho2).mono ?_; rintro e w9 ⟨rfl, hba⟩)
      go_ret
      exact ⟨rfl, hE8.trans hba⟩
    · refine EachOp.cons ?_ (EachOp.cons ?_ (EachOp.cons ?_ (EachOp.cons ?_ (EachOp.cons ?_ (EachOp.cons ?_ (EachOp.cons ?_ (EachOp.cons ?_ (EachOp.cons ?_ (EachOp.cons ?_ (EachOp.cons ?_ (EachOp.cons ?_ (EachOp.cons ?_ (EachOp.cons ?_ (EachOp.cons ?_ (EachOp.cons ?_ (EachOp.cons ?_ (EachOp.cons ?_ (EachOp.cons ?_ (EachOp.cons ?_ (EachOp.cons ?_ (EachOp.cons ?_ (EachOp.cons ?_ (EachOp.cons ?_ (EachOp.cons ?_ (EachOp.cons ?_ (EachOp.cons ?_ (EachOp.cons ?_ (EachOp.cons ?_ (EachOp.cons ?_ (EachOp.cons ?_ (EachOp.cons ?_ (EachOp.cons ?_ (EachOp.cons ?_ (EachOp.cons ?_ EachOp.nil))))))))))))))))))))))))))))))))))
      all_goals (refine StepG.run rfl fun r wq hR hc hf ho hk K hK => ?_)
      · exact opv_arp (.tmp 11) rfl w1.heap.size q (ho 11 rfl) (hL.ext (hR.below (Nat.le_refl _) (fun _ h => h.elim))).bq (hK _ _ hR (Keep.refl _ _) rfl (fun h => by simp at h))
      · exact opv_mac (.tmp 6) rfl w.heap.size f (ho 6 rfl) (hL.ext (hR.below (Nat.le_refl _) (fun _ h => h.elim))).bf (hK _ _ hR (Keep.refl _ _) rfl (fun h => by simp at h))
      · exact opv_ad (.tmp 8) rfl (w.heap.size + 1 + 1) s (ho 8 rfl) (hL.ext (hR.below (Nat.le_refl _) (fun _ h => h.elim))).bs (hK _ _ hR (Keep.refl _ _) rfl (fun h => by simp at h))
      · exact opv_ad (.tmp 9) rfl (w.heap.size + 1 + 1 + 1) d (ho 9 rfl) (hL.ext (hR.below (Nat.le_refl _) (fun _ h => h.elim))).bd (hK _ _ hR (Keep.refl _ _) rfl (fun h => by simp at h))
      · have h0 : r (.tmp 29) = macV f := hk.1
        have h1 : r (.tmp 30) = adV s := hk.2.1
        have h2 : r (.tmp 31) = adV d := hk.2.2.1
        unfold OpV; go_simp
        refine (rreq_any f s d _).mono ?_
        rw [← Hq.out]
        rintro e w2 ⟨rfl, hE⟩
        exact ⟨_, rfl, hK _ _ (hR.trans (Keep.of_below hE)) (Keep.of_below hE) rfl (fun h => by simp at h)⟩
      · have h0 : r (.tmp 28) = arpV q := hk.1
        have h1 : r (.tmp 32) = arpV q := hk.2.1
        have hn := fun (x : Mac) (w : World) => mac_same 9997 x w
        unfold macV at hn
        unfold arpV at h0 h1
        unfold OpV; go_simp; exact hK _ _ hR (Keep.refl _ _) rfl (fun h => by simp at h)
      · have h0 : r (.tmp 33) = .bool false := hk.1
        unfold OpV; go_simp; exact hK _ _ hR (Keep.refl _ _) rfl (fun h => by simp at h)
      · exact opv_arp (.tmp 13) rfl k1 (repM q c) (ho 13 rfl) (b1.below (hR.below (Nat.le_refl _) (fun _ h => h.elim)) b1.lt) (hK _ _ hR (Keep.refl _ _) rfl (fun h => by simp at h))
      · exact opv_arp (.tmp 11) rfl w1.heap.size q (ho 11 rfl) (hL.ext (hR.below (Nat.le_refl _) (fun _ h => h.elim))).bq (hK _ _ hR (Keep.refl _ _) rfl (fun h => by simp at h))
      · exact opv_mac (.tmp 7) rfl (w.heap.size + 1) c (ho 7 rfl) (hL.ext (hR.below (Nat.le_refl _) (fun _ h => h.elim))).bc (hK _ _ hR (Keep.refl _ _) rfl (fun h => by simp at h))
      · have h0 : r (.tmp 36) = arpV q := hk.1
        have h1 : r (.tmp 37) = macV c := hk.2.1
        unfold OpV; go_simp
        refine (rrep_any q c _).mono ?_
        rintro e w2 ⟨rfl, hE⟩
        exact ⟨_, rfl, hK _ _ (hR.trans (Keep.of_below hE)) (Keep.of_below hE) rfl (fun h => by simp at h)⟩
      · have h0 : r (.tmp 35) = arpV (repM q c) := hk.1
        have h1 : r (.tmp 38) = arpV (repM q c) := hk.2.1
        have hn := fun (x : Mac) (w : World) => mac_same 9997 x w
        unfold macV at hn
        unfold arpV at h0 h1
        unfold OpV; go_simp; exact hK _ _ hR (Keep.refl _ _) rfl (fun h => by simp at h)
      · have h0 : r (.tmp 34) = .bool false := hk.1
        have h1 : r (.tmp 39) = .bool false := hk.2.1
        unfold OpV; go_simp; exact hK _ _ hR (Keep.refl _ _) rfl (fun h => by simp at h)
      · have h0 : r (.tmp 40) = .bool false := hk.1
        unfold OpV; go_simp; exact hK _ _ hR (Keep.refl _ _) rfl (fun h => by simp at h)
      · exact opv_arp (.tmp 14) rfl k2 (repM m c) (ho 14 rfl) (b2.below (hR.below (Nat.le_refl _) (fun _ h => h.elim)) b2.lt) (hK _ _ hR (Keep.refl _ _) rfl (fun h => by simp at h))
      · exact opv_arp (.tmp 12) rfl w3.heap.size m (ho 12 rfl) (hL.ext (hR.below (Nat.le_refl _) (fun _ h => h.elim))).bm (hK _ _ hR (Keep.refl _ _) rfl (fun h => by simp at h))
      · exact opv_mac (.tmp 7) rfl (w.heap.size + 1) c (ho 7 rfl) (hL.ext (hR.below (Nat.le_refl _) (fun _ h => h.elim))).bc (hK _ _ hR (Keep.refl _ _) rfl (fun h => by simp at h))
      · have h0 : r (.tmp 43) = arpV m := hk.1
        have h1 : r (.tmp 44) = macV c := hk.2.1
        unfold OpV; go_simp
        refine (rrep_any m c _).mono ?_
        rintro e w2 ⟨rfl, hE⟩
        exact ⟨_, rfl, hK _ _ (hR.trans (Keep.of_below hE)) (Keep.of_below hE) rfl (fun h => by simp at h)⟩
      · have h0 : r (.tmp 42) = arpV (repM m c) := hk.1
        have h1 : r (.tmp 45) = arpV (repM m c) := hk.2.1
        have hn := fun (x : Mac) (w : World) => mac_same 9997 x w
        unfold macV at hn
        unfold arpV at h0 h1
        unfold OpV; go_simp; exact hK _ _ hR (Keep.refl _ _) rfl (fun h => by simp at h)
      · have h0 : r (.tmp 41) = .bool false := hk.1
        have h1 : r (.tmp 46) = .bool false := hk.2.1
        unfold OpV; go_simp; exact hK _ _ hR (Keep.refl _ _) rfl (fun h => by simp at h)
      · have h0 : r (.tmp 47) = .bool false := hk.1
        unfold OpV; go_simp; exact hK _ _ hR (Keep.refl _ _) rfl (fun h => by simp at h)
      · exact opv_arp (.tmp 12) rfl w3.heap.size m (ho 12 rfl) (hL.ext (hR.below (Nat.le_refl _) (fun _ h => h.elim))).bm (hK _ _ hR (Keep.refl _ _) rfl (fun h => by simp at h))
      · have h0 : r (.tmp 49) = arpV m := hk.1
        unfold OpV; go_simp
        refine (own_any m _).mono ?_
        rintro e w2 ⟨rfl, hE⟩
        exact ⟨_, rfl, hK _ _ (hR.trans (Keep.of_below hE)) (Keep.of_below hE) rfl (fun h => by simp at h)⟩
      · exact opv_arp (.tmp 12) rfl w3.heap.size m (ho 12 rfl) (hL.ext (hR.below (Nat.le_refl _) (fun _ h => h.elim))).bm (hK _ _ hR (Keep.refl _ _) rfl (fun h => by simp at h))
      · have h0 : r (.tmp 51) = arpV m := hk.1
        unfold OpV; go_simp
        refine (rown_any m _).mono ?_
        rintro e w2 ⟨rfl, hE⟩
        exact ⟨_, rfl, hK _ _ (hR.trans (Keep.of_below hE)) (Keep.of_below hE) rfl (fun h => by simp at h)⟩
      · have h0 : r (.tmp 50) = .bool (ownB m) := hk.1
        have h1 : r (.tmp 52) = .bool (ownB m) := hk.2.1
        unfold OpV; go_simp; exact hK _ _ hR (Keep.refl _ _) rfl (fun h => by simp at h)
      · have h0 : r (.tmp 48) = .bool false := hk.1
        have h1 : r (.tmp 53) = .bool false := hk.2.1
        unfold OpV; go_simp; exact hK _ _ hR (Keep.refl _ _) rfl (fun h => by simp at h)
      · have h0 : r (.tmp 54) = .bool false := hk.1
        unfold OpV; go_simp; exact hK _ _ hR (Keep.refl _ _) rfl (fun h => by simp at h)
      · exact opv_mac (.tmp 6) rfl w.heap.size f (ho 6 rfl) (hL.ext (hR.below (Nat.le_refl _) (fun _ h => h.elim))).bf (hK _ _ hR (Keep.refl _ _) rfl (fun h => by simp at h))
      · exact opv_ad (.tmp 8) rfl (w.heap.size + 1 + 1) s (ho 8 rfl) (hL.ext (hR.below (Nat.le_refl _) (fun _ h => h.elim))).bs (hK _ _ hR (Keep.refl _ _) rfl (fun h => by simp at h))
      · exact opv_ad (.tmp 8) rfl (w.heap.size + 1 + 1) s (ho 8 rfl) (hL.ext (hR.below (Nat.le_refl _) (fun _ h => h.elim))).bs (hK _ _ hR (Keep.refl _ _) rfl (fun h => by simp at h))
      · have h0 : r (.tmp 56) = macV f := hk.1
        have h1 : r (.tmp 57) = adV s := hk.2.1
        have h2 : r (.tmp 58) = adV s := hk.2.2.1
        unfold OpV; go_simp
        refine (req_any f s s _).mono ?_
        rintro e w2 ⟨rfl, hE⟩
        exact ⟨_, rfl, hK _ _ (hR.trans (Keep.of_below hE)) (Keep.of_below hE) rfl (fun h => by simp at h)⟩
      · have h0 : r (.tmp 59) = arpV ⟨1, f, s, mac0, s⟩ := hk.1
        unfold OpV; go_simp
        refine (own_any _ _).mono ?_
        rw [ownB_self]
        rintro e w2 ⟨rfl, hE⟩
        exact ⟨_, rfl, hK _ _ (hR.trans (Keep.of_below hE)) (Keep.of_below hE) rfl (fun h => by simp at h)⟩
      · have h0 : r (.tmp 60) = .bool true := hk.1
        unfold OpV; go_simp; exact hK _ _ hR (Keep.refl _ _) rfl (fun h => by simp at h)
      · have h0 : r (.tmp 55) = .bool false := hk.1
        have h1 : r (.tmp 61) = .bool false := hk.2.1
        unfold OpV; go_simp; exact hK _ _ hR (Keep.refl _ _) rfl (fun h => by simp at h)

end Go.Proofs.YtopkbpigaengeaaDoor
