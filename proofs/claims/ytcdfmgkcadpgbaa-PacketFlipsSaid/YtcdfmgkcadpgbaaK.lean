/-
  Packets that the law makes out of the deck: valid ones, or nearly so.
-/
import Derived.Test.YtcdfmgkcadpgbaaE
namespace Go.Proofs.Ytcdfmgkcadpgbaa
open Go.RowKit

structure Ad where
  v6 : Bool
  hi : Int
  lo : Int
def Ad.ok (a : Ad) : Prop := AddrOk a.v6 a.hi a.lo
/-- a packet, as a value of nine cells -/
def pkV (s d : Ad) (proto ttl : Int) (v : Value) : Value := .agg #[.bool s.v6, .int .u64 s.hi, .int .u64 s.lo, .bool d.v6, .int .u64 d.hi, .int .u64 d.lo, .int .i64 proto, .int .i64 ttl, v]
def pkC (s d : Ad) (proto ttl : Int) (v : Value) : Array Value := #[.bool s.v6, .int .u64 s.hi, .int .u64 s.lo, .bool d.v6, .int .u64 d.hi, .int .u64 d.lo, .int .i64 proto, .int .i64 ttl, v]
def zero9 : Array Value := #[.bool false, .int .u64 0, .int .u64 0, .bool false, .int .u64 0, .int .u64 0, .int .i64 0, .int .i64 0, .slice none 0 0]

def isAddr (x : Value) : Prop := ∃ a : Ad, x = addrV a.v6 a.hi a.lo ∧ a.ok
def protoRow : Array Value := #[.int .i64 1, .int .i64 6, .int .i64 17, .int .i64 58, .int .i64 0, .int .i64 255, .int .i64 256]
def ttlRow : Array Value := #[.int .i64 64, .int .i64 255, .int .i64 1, .int .i64 0, .int .i64 256]
def isN (b : Int) (x : Value) : Prop := ∃ n : Int, x = .int .i64 n ∧ 0 ≤ n ∧ n ≤ b
theorem protoRow_at (q : Nat) (h : q < 7) : ∃ x, protoRow[q]? = some x ∧ isN 256 x := by
  obtain rfl | rfl | rfl | rfl | rfl | rfl | rfl : q = 0 ∨ q = 1 ∨ q = 2 ∨ q = 3 ∨ q = 4 ∨ q = 5 ∨ q = 6 := by omega
  all_goals exact ⟨_, rfl, _, rfl, by omega, by omega⟩
theorem ttlRow_at (q : Nat) (h : q < 5) : ∃ x, ttlRow[q]? = some x ∧ isN 256 x := by
  obtain rfl | rfl | rfl | rfl | rfl : q = 0 ∨ q = 1 ∨ q = 2 ∨ q = 3 ∨ q = 4 := by omega
  all_goals exact ⟨_, rfl, _, rfl, by omega, by omega⟩
theorem isN_int (b : Int) (x : Value) (h : isN b x) : ∃ n, x = .int .i64 n := by obtain ⟨q, e, _⟩ := h; exact ⟨_, e⟩

/-- bytes in a row of the call's own, in a block above g -/
def BsOk (g : Nat) (w : World) (v : Value) (bs : List Int) : Prop := IsB bs ∧ bs.length ≤ 1480 ∧ w.ownsRow (g + 1) 5 1 v bs.length (bytesV bs)
theorem own_base {w : World} {base base' e size n : Nat} {v : Value} {xs : List Value} (h : w.ownsRow base e size v n xs) (hb : base' ≤ base) : w.ownsRow base' e size v n xs := by
  rcases h.2 with h1 | ⟨g, cap, c, hv, hb', h2⟩
  · exact ⟨h.1, .inl h1⟩
  · exact ⟨h.1, .inr ⟨g, cap, c, hv, by omega, h2⟩⟩
theorem BsOk.slice {g : Nat} {w : World} {v : Value} {bs : List Int} (h : BsOk g w v bs) : ∃ A n c, v = .slice A n c := by
  rcases h.2.2.2 with ⟨e, _⟩ | ⟨k, cap, c, e, _⟩
  · exact ⟨_, _, _, e⟩
  · exact ⟨_, _, _, e⟩
theorem BsOk.kept {g : Nat} {w w' : World} {v : Value} {bs : List Int} (h : BsOk g w v bs) (hk : Keep (· = g) w w') : BsOk g w' v bs :=
  ⟨h.1, h.2.1, own_keep h.2.2 hk fun k hv e => by have := (h.2.2.lt k hv).1; omega⟩
def Fact.bytes (g : Nat) : Fact (· = g) := ⟨fun x w => ∃ bs, BsOk g w x bs, fun _ _ _ hk ⟨bs, h⟩ => ⟨bs, h.kept hk⟩⟩
def Fact.pkt (g : Nat) : Fact (· = g) := ⟨fun x w => ∃ (s d : Ad) (proto ttl : Int) (v : Value) (bs : List Int), x = pkV s d proto ttl v ∧ s.ok ∧ d.ok ∧ (0 ≤ proto ∧ proto ≤ 256) ∧ (0 ≤ ttl ∧ ttl ≤ 256) ∧ BsOk g w v bs,
  fun _ _ _ hk ⟨s, d, p, t, v, bs, h1, h2, h3, h4, h5, h6⟩ => ⟨s, d, p, t, v, bs, h1, h2, h3, h4, h5, h6.kept hk⟩⟩
/-- a pointer to a block of zeros -/
def Fact.zero9 (g r0 : Nat) : Fact (· = g) := ⟨fun x w => ∃ k, x = .pointer (some ⟨k, 0, none⟩) ∧ k ≠ g ∧ Blk w k 34 Go.Proofs.Ytcdfmgkcadpgbaa.zero9 ∧ r0 < k, fun _ _ _ hk ⟨k, h1, h2, h3, h4⟩ => ⟨k, h1, h2, h3.kept hk h2, h4⟩⟩

def madeF (g r0 : Nat) : List (Fact (· = g)) :=
  [.is (.pointer (some ⟨g, 0, none⟩)), .val isAddr, .is (.pointer (some ⟨g, 0, none⟩)), .val isAddr,
   .row 3 7 7 protoRow, .is (.pointer (some ⟨g, 0, none⟩)), .lt 7, .ptr (isN 256), .val (isN 256),
   .row 3 5 5 ttlRow, .is (.pointer (some ⟨g, 0, none⟩)), .lt 5, .ptr (isN 256), .val (isN 256),
   .is (.pointer (some ⟨g, 0, none⟩)), .bytes g, .pkt g, .zero9 g r0]

section
variable {w wq : World} {B g : Nat} {K : Value → World → Prop}
theorem opv_addr (hR : DkR w B g wq) (hK : ∀ x w', DkR w B g w' → Keep (· = g) wq w' → isAddr x → K x w') :
    Calls Try.prog 18 #[.pointer (some ⟨g, 0, none⟩)] wq fun e w'' => ∃ v, e = .returned v ∧ K v w'' := by
  refine (daddr_any B g wq hR.2).mono ?_
  rintro e w2 ⟨v6, hi, lo, rfl, hok, hg2, hd2⟩
  exact ⟨_, rfl, hK _ _ (hR.step hg2 hd2) (keep_of hg2) ⟨⟨v6, hi, lo⟩, rfl, hok⟩⟩
theorem opv_dbytes (hR : DkR w B g wq) (hK : ∀ x w', DkR w B g w' → Keep (· = g) wq w' → (∃ bs, BsOk g w' x bs) → K x w') :
    Calls Try.prog 30 #[.pointer (some ⟨g, 0, none⟩), .int .i64 40] wq fun e w'' => ∃ v, e = .returned v ∧ K v w'' := by
  refine (dbytes_any B g 40 wq (by omega) hR.2).mono ?_
  rintro e w2 ⟨v, bs, rfl, hB, hl, hown, hg2, hd2⟩
  exact ⟨_, rfl, hK _ _ (hR.step hg2 hd2) (keep_of hg2) ⟨bs, hB, by omega, own_base hown (by have := lt_deck hR; omega)⟩⟩
end

/-- what stays when only a block k of the call's own is written -/
theorem DkR.own {w wq w' : World} {B g k : Nat} (h : DkR w B g wq) (hk : Keep (· = k) wq w') (hkg : ¬ k = g) (hkw : w.heap.size ≤ k) (hB : B ≤ g) (hgw : g < w.heap.size) : DkR w B g w' :=
  ⟨⟨hk.os.trans h.1.os, hk.tape.trans h.1.tape, hk.output.trans h.1.output, Nat.le_trans h.1.size hk.size, fun i hi hx => (hk.block i (Nat.lt_of_lt_of_le hi h.1.size) (by omega)).trans (h.1.block i hi hx)⟩,
    h.2.keep fun i hi => hk.block i (by have := h.2.lt; omega) (by omega)⟩
theorem DeckOk.le {w : World} {B g : Nat} (h : DeckOk w B g) : B ≤ g := by
  obtain ⟨A, len, c, zs, i, _, _, h3, _⟩ := h
  exact h3
theorem BsOk.own {g k : Nat} {w w' : World} {t : TypeId} {cs : Array Value} {v : Value} {bs : List Int} (h : BsOk g w v bs) (hk : Keep (· = k) w w') (hb : Blk w k t cs) (ht : 5 ≠ t) : BsOk g w' v bs :=
  ⟨h.1, h.2.1, own_keep h.2.2 hk fun j hj e => own_blk_ne h.2.2 hb ht (by rw [hj, e])⟩
/-- the cells of a packet in memory -/
theorem pk_cells {w : World} {k : Nat} {ty : TypeId} {s d : Ad} {p t : Int} {v : Value} (h : Blk w k ty (pkC s d p t v)) : w.cell? ⟨k, 0, none⟩ = some (.bool s.v6) ∧ w.cell? ⟨k, 1, none⟩ = some (.int .u64 s.hi) ∧ w.cell? ⟨k, 2, none⟩ = some (.int .u64 s.lo) ∧ w.cell? ⟨k, 3, none⟩ = some (.bool d.v6) ∧ w.cell? ⟨k, 4, none⟩ = some (.int .u64 d.hi) ∧ w.cell? ⟨k, 5, none⟩ = some (.int .u64 d.lo) ∧ w.cell? ⟨k, 6, none⟩ = some (.int .i64 p) ∧ w.cell? ⟨k, 7, none⟩ = some (.int .i64 t) ∧ w.cell? ⟨k, 8, none⟩ = some v ∧ (∀ i, w.frozen? ⟨k, i, none⟩ = false) :=
  ⟨h.cell 0, h.cell 1, h.cell 2, h.cell 3, h.cell 4, h.cell 5, h.cell 6, h.cell 7, h.cell 8, h.frozen⟩
theorem Blk.set3at {w : World} {k : Nat} {ty : TypeId} {s d : Ad} {p t : Int} {v : Value} (h : Blk w k ty (pkC s d p t v)) (e : Ad) :
    Blk (((w.setCell ⟨k, 3, none⟩ (.bool e.v6)).setCell ⟨k, 4, none⟩ (.int .u64 e.hi)).setCell ⟨k, 5, none⟩ (.int .u64 e.lo)) k ty (pkC s e p t v) := by
  have := ((h.set_ 3 (.bool e.v6)).set_ 4 (.int .u64 e.hi)).set_ 5 (.int .u64 e.lo)
  simpa [pkC] using this
theorem Blk.setLo {w : World} {k : Nat} {ty : TypeId} {s d : Ad} {p t : Int} {v : Value} (h : Blk w k ty (pkC s d p t v)) (lo : Int) :
    Blk (w.setCell ⟨k, 5, none⟩ (.int .u64 lo)) k ty (pkC s ⟨d.v6, d.hi, lo⟩ p t v) := by
  have := h.set_ 5 (.int .u64 lo)
  simpa [pkC] using this
theorem Blk.setData {w : World} {k : Nat} {ty : TypeId} {s d : Ad} {p t : Int} {v : Value} (h : Blk w k ty (pkC s d p t v)) (u : Value) :
    Blk (w.setCell ⟨k, 8, none⟩ u) k ty (pkC s d p t u) := by
  have := h.set_ 8 u
  simpa [pkC] using this
theorem keep_one {w : World} {p : Addr} (u : Value) : Keep (· = p.block) w (w.setCell p u) := (Keep.refl (· = p.block) w).setCell (p := p) (.inr rfl) u
theorem keep_three {w : World} {k a b c : Nat} (x y z : Value) : Keep (· = k) w (((w.setCell ⟨k, a, none⟩ x).setCell ⟨k, b, none⟩ y).setCell ⟨k, c, none⟩ z) :=
  (((Keep.refl (· = k) w).setCell (p := ⟨k, a, none⟩) (.inr rfl) x).setCell (p := ⟨k, b, none⟩) (.inr rfl) y).setCell (p := ⟨k, c, none⟩) (.inr rfl) z
/-- a packet under way: its block, its bytes, the deck -/
structure Pkt (w : World) (B g r0 k : Nat) (s d : Ad) (p t : Int) (dv : Value) (bs : List Int) (wx : World) : Prop where
  kg : ¬ k = g
  kr : ¬ k = r0
  kw : w.heap.size ≤ k
  sok : s.ok
  dok : d.ok
  pok : 0 ≤ p ∧ p ≤ 256
  tok : 0 ≤ t ∧ t ≤ 256
  dat : BsOk g wx dv bs
  blk : Blk wx k 34 (pkC s d p t dv)
  res : Blk wx r0 34 zero9
  dk : DkR w B g wx
theorem Pkt.on {w : World} {B g r0 k : Nat} {s d : Ad} {p t : Int} {dv : Value} {bs : List Int} {wx w' : World} (h : Pkt w B g r0 k s d p t dv bs wx) (hk : Keep (· = g) wx w') (hd : DeckOk w' B g) (hr : ¬ r0 = g) : Pkt w B g r0 k s d p t dv bs w' :=
  ⟨h.kg, h.kr, h.kw, h.sok, h.dok, h.pok, h.tok, h.dat.kept hk, h.blk.kept hk h.kg, h.res.kept hk hr, h.dk.1.trans hk, hd⟩
theorem Pkt.dst {w : World} {B g r0 k : Nat} {s d : Ad} {p t : Int} {dv : Value} {bs : List Int} {wx w' : World} (h : Pkt w B g r0 k s d p t dv bs wx) (hk : Keep (· = k) wx w') (d' : Ad) (hok : d'.ok) (hb : Blk w' k 34 (pkC s d' p t dv)) (hg : g < w.heap.size) : Pkt w B g r0 k s d' p t dv bs w' :=
  ⟨h.kg, h.kr, h.kw, h.sok, hok, h.pok, h.tok, h.dat.own hk h.blk (by decide), hb, h.res.kept hk (fun e => h.kr e.symm), h.dk.own hk h.kg h.kw h.dk.2.le hg⟩
/-- what a packet under way leaves: block k holds it -/
def PkR (w : World) (B g r0 : Nat) (v : Value) (wx : World) : Prop := ∃ (k : Nat) (s d : Ad) (p t : Int) (dv : Value) (bs : List Int), v = .pointer (some ⟨k, 0, none⟩) ∧ Pkt w B g r0 k s d p t dv bs wx
/-- nine cells of one block, stored one by one -/
def set9 (w : World) (k : Nat) (a0 a1 a2 a3 a4 a5 a6 a7 a8 : Value) : World :=
  ((((((((w.setCell ⟨k, 0, none⟩ a0).setCell ⟨k, 1, none⟩ a1).setCell ⟨k, 2, none⟩ a2).setCell ⟨k, 3, none⟩ a3).setCell ⟨k, 4, none⟩ a4).setCell ⟨k, 5, none⟩ a5).setCell ⟨k, 6, none⟩ a6).setCell ⟨k, 7, none⟩ a7).setCell ⟨k, 8, none⟩ a8
theorem Blk.set9 {w : World} {k : Nat} {t : TypeId} {b0 b1 b2 b3 b4 b5 b6 b7 b8 : Value} (h : Blk w k t #[b0, b1, b2, b3, b4, b5, b6, b7, b8]) (a0 a1 a2 a3 a4 a5 a6 a7 a8 : Value) :
    Blk (set9 w k a0 a1 a2 a3 a4 a5 a6 a7 a8) k t #[a0, a1, a2, a3, a4, a5, a6, a7, a8] := by
  have := ((((((((h.set_ 0 a0).set_ 1 a1).set_ 2 a2).set_ 3 a3).set_ 4 a4).set_ 5 a5).set_ 6 a6).set_ 7 a7).set_ 8 a8
  simpa [Go.Proofs.Ytcdfmgkcadpgbaa.set9] using this
theorem keep_set9 {w : World} {k : Nat} {X : Nat → Prop} (hx : X k) (a0 a1 a2 a3 a4 a5 a6 a7 a8 : Value) : Keep X w (set9 w k a0 a1 a2 a3 a4 a5 a6 a7 a8) :=
  ((((((((((Keep.refl X w).setCell (p := ⟨k, 0, none⟩) (.inr hx) a0).setCell (p := ⟨k, 1, none⟩) (.inr hx) a1).setCell (p := ⟨k, 2, none⟩) (.inr hx) a2).setCell (p := ⟨k, 3, none⟩) (.inr hx) a3).setCell (p := ⟨k, 4, none⟩) (.inr hx) a4).setCell (p := ⟨k, 5, none⟩) (.inr hx) a5).setCell (p := ⟨k, 6, none⟩) (.inr hx) a6).setCell (p := ⟨k, 7, none⟩) (.inr hx) a7).setCell (p := ⟨k, 8, none⟩) (.inr hx) a8)
theorem pkR_new {w wq : World} {B g k r0 : Nat} {s d : Ad} {p t : Int} {dv : Value} {bs : List Int} (hgw : g < w.heap.size) (hR : DkR w B g wq) (h0 : Blk wq r0 34 zero9) (hkb : Blk wq k 34 zero9) (hkw : w.heap.size ≤ k) (hkg : ¬ k = g) (hkr : ¬ k = r0) (hs : s.ok) (hd : d.ok)
    (hp : 0 ≤ p ∧ p ≤ 256) (ht : 0 ≤ t ∧ t ≤ 256) (hbs : BsOk g wq dv bs) :
    PkR w B g r0 (.pointer (some ⟨k, 0, none⟩)) (set9 wq k (.bool s.v6) (.int .u64 s.hi) (.int .u64 s.lo) (.bool d.v6) (.int .u64 d.hi) (.int .u64 d.lo) (.int .i64 p) (.int .i64 t) dv) := by
  have hk := keep_set9 (w := wq) (X := (· = k)) rfl (.bool s.v6) (.int .u64 s.hi) (.int .u64 s.lo) (.bool d.v6) (.int .u64 d.hi) (.int .u64 d.lo) (.int .i64 p) (.int .i64 t) dv
  exact ⟨k, s, d, p, t, dv, bs, rfl, hkg, hkr, hkw, hs, hd, hp, ht, hbs.own hk hkb (by decide), Blk.set9 hkb _ _ _ _ _ _ _ _ _, h0.kept hk (fun e => hkr e.symm), hR.own hk hkg hkw hR.2.le hgw⟩

def xorF (g k : Nat) (lo : Int) : List (Fact (· = g)) :=
  [.is (.pointer (some ⟨k, 3, none⟩)), .is (.pointer (some ⟨k, 5, none⟩)), .is (.int .u64 lo), .is (.pointer (some ⟨g, 0, none⟩)), .lt 256,
   .val (fun x => ∃ m : Nat, x = .int .u64 (m : Int) ∧ m < 256), .val (fun x => ∃ m : Nat, x = .int .u64 (bits .xor .u64 lo (m : Int)) ∧ m < 256)]
theorem xor_ok {s : Ad} {m : Nat} (h : s.ok) (hm : m < 256) : Ad.ok ⟨s.v6, s.hi, bits .xor .u64 s.lo (m : Int)⟩ := by
  obtain ⟨h1, h2, h3, h4, h5⟩ := h
  obtain ⟨a, ha⟩ := Int.eq_ofNat_of_zero_le h3
  rw [ha] at h3 h4 h5 ⊢
  have hx : a ^^^ m < 2 ^ 64 := Nat.xor_lt_two_pow (by omega) (by omega)
  have e : bits .xor .u64 (a : Int) (m : Int) = ((a ^^^ m : Nat) : Int) := u64_xor_nat a m (by omega) (by omega)
  show AddrOk s.v6 s.hi (bits .xor .u64 (a : Int) (m : Int))
  rw [e]
  refine ⟨h1, h2, by omega, by omega, fun hv => ⟨(h5 hv).1, ?_⟩⟩
  have h6 := (h5 hv).2
  have hy : a ^^^ m < 2 ^ 32 := Nat.xor_lt_two_pow (by omega) (by omega)
  omega

theorem zeros_ok {g m : Nat} {w : World} (hg : g < w.heap.size) (hm : m ≤ 1480) : BsOk g (w.alloc (.cells (madeCells #[.int .u8 0] m) 5)) (.slice (some ⟨w.heap.size, 0, none⟩) m m) (List.replicate m 0) := by
  refine ⟨?_, by simpa using hm, by simp [bytesV], .inr ⟨w.heap.size, m, madeCells #[.int .u8 0] m, by simp, by omega, heap_alloc_new w _, by simp, by unfold maxLen; omega, by simp [size_madeCells], ?_⟩⟩
  · intro x hx
    rw [List.eq_of_mem_replicate hx]
    omega
  · simp only [List.length_replicate, Nat.mul_one, bytesV, List.map_replicate]
    apply List.ext_getElem
    · simp [madeCells]
    · intro i h1 h2
      simp [madeCells, Nat.mod_one]
/-- the end of made: the packet is read out of the result's block -/
theorem made_end {w : World} {B g : Nat} {s d : Ad} {p t : Int} {v : Value} {bs : List Int} {wf : World} {a : Act} (hs1 : s.ok) (hd1 : d.ok) (hp : 0 ≤ p ∧ p ≤ 256) (ht : 0 ≤ t ∧ t ≤ 256)
    (hb : Blk wf w.heap.size 34 (pkC s d p t v)) (hdat : BsOk g wf v bs) (hdk : DkR w B g wf) (hs : a.tmps.getD 2 undef = .pointer (some ⟨w.heap.size, 0, none⟩)) (hdf : a.defers = []) :
    bodyPost Try.prog Try.f13 (fun e w' => ∃ (s d : Ad) (proto ttl : Int) (v : Value) (bs : List Int), e = .returned (pkV s d proto ttl v) ∧ s.ok ∧ d.ok ∧ (0 ≤ proto ∧ proto ≤ 256) ∧ (0 ≤ ttl ∧ ttl ≤ 256) ∧ BsOk g w' v bs ∧ DkR w B g w') .ret a wf :=
  bodyPost_ret (results_cell_row rfl _ _ w.heap.size _ (pkC s d p t v) (0, 0) _ hs hb Try.underlying34 rfl (by kernel_rfl)) hdf ⟨s, d, p, t, v, bs, rfl, hs1, hd1, hp, ht, hdat, hdk⟩
theorem made_ret {w : World} {B g k : Nat} {s d : Ad} {p t : Int} {A : Option Addr} {n c : Nat} {bs : List Int} {wx : World} {a : Act} (h : Pkt w B g w.heap.size k s d p t (.slice A n c) bs wx) (hg : g < w.heap.size) (hne : ¬ w.heap.size = g)
    (hs : a.tmps.getD 2 undef = .pointer (some ⟨w.heap.size, 0, none⟩)) (hdf : a.defers = []) :
    bodyPost Try.prog Try.f13 (fun e w' => ∃ (s d : Ad) (proto ttl : Int) (v : Value) (bs : List Int), e = .returned (pkV s d proto ttl v) ∧ s.ok ∧ d.ok ∧ (0 ≤ proto ∧ proto ≤ 256) ∧ (0 ≤ ttl ∧ ttl ≤ 256) ∧ BsOk g w' v bs ∧ DkR w B g w') .ret a
      (set9 wx w.heap.size (.bool s.v6) (.int .u64 s.hi) (.int .u64 s.lo) (.bool d.v6) (.int .u64 d.hi) (.int .u64 d.lo) (.int .i64 p) (.int .i64 t) (.slice A n c)) := by
  have hk := keep_set9 (w := wx) (k := w.heap.size) (X := (· = w.heap.size)) rfl (.bool s.v6) (.int .u64 s.hi) (.int .u64 s.lo) (.bool d.v6) (.int .u64 d.hi) (.int .u64 d.lo) (.int .i64 p) (.int .i64 t) (.slice A n c)
  exact made_end h.sok h.dok h.pok h.tok (Blk.set9 h.res _ _ _ _ _ _ _ _ _) (h.dat.own hk h.res (by decide)) (h.dk.own hk hne (Nat.le_refl _) h.dk.2.le hg) hs hdf
theorem made_ret0 {w : World} {B g k N : Nat} {s d : Ad} {p t : Int} {dv : Value} {bs : List Int} {wx : World} {a : Act} (h : Pkt w B g w.heap.size k s d p t dv bs wx) (hN : N ≤ 1480) (hg : g < w.heap.size) (hne : ¬ w.heap.size = g)
    (hs : a.tmps.getD 2 undef = .pointer (some ⟨w.heap.size, 0, none⟩)) (hdf : a.defers = []) :
    bodyPost Try.prog Try.f13 (fun e w' => ∃ (s d : Ad) (proto ttl : Int) (v : Value) (bs : List Int), e = .returned (pkV s d proto ttl v) ∧ s.ok ∧ d.ok ∧ (0 ≤ proto ∧ proto ≤ 256) ∧ (0 ≤ ttl ∧ ttl ≤ 256) ∧ BsOk g w' v bs ∧ DkR w B g w') .ret a
      ((set9 (wx.setCell ⟨k, 8, none⟩ (.slice (some ⟨wx.heap.size, 0, none⟩) N N)) w.heap.size (.bool s.v6) (.int .u64 s.hi) (.int .u64 s.lo) (.bool d.v6) (.int .u64 d.hi) (.int .u64 d.lo) (.int .i64 p) (.int .i64 t) (.slice (some ⟨wx.heap.size, 0, none⟩) N N)).alloc (.cells (madeCells #[.int .u8 0] N) 5)) := by
  have hk0 : Keep (· = k) wx (wx.setCell ⟨k, 8, none⟩ (.slice (some ⟨wx.heap.size, 0, none⟩) N N)) := keep_one (p := ⟨k, 8, none⟩) _
  have hr1 := h.res.kept hk0 (fun e => h.kr e.symm)
  have hd1 := h.dk.own hk0 h.kg h.kw h.dk.2.le hg
  have hk := keep_set9 (w := wx.setCell ⟨k, 8, none⟩ (.slice (some ⟨wx.heap.size, 0, none⟩) N N)) (k := w.heap.size) (X := (· = w.heap.size)) rfl (.bool s.v6) (.int .u64 s.hi) (.int .u64 s.lo) (.bool d.v6) (.int .u64 d.hi) (.int .u64 d.lo) (.int .i64 p) (.int .i64 t) (.slice (some ⟨wx.heap.size, 0, none⟩) N N)
  have hz := zeros_ok (g := g) (m := N) (w := set9 (wx.setCell ⟨k, 8, none⟩ (.slice (some ⟨wx.heap.size, 0, none⟩) N N)) w.heap.size (.bool s.v6) (.int .u64 s.hi) (.int .u64 s.lo) (.bool d.v6) (.int .u64 d.hi) (.int .u64 d.lo) (.int .i64 p) (.int .i64 t) (.slice (some ⟨wx.heap.size, 0, none⟩) N N)) (Nat.lt_of_lt_of_le hd1.2.lt hk.size) hN
  have e : (set9 (wx.setCell ⟨k, 8, none⟩ (.slice (some ⟨wx.heap.size, 0, none⟩) N N)) w.heap.size (.bool s.v6) (.int .u64 s.hi) (.int .u64 s.lo) (.bool d.v6) (.int .u64 d.hi) (.int .u64 d.lo) (.int .i64 p) (.int .i64 t) (.slice (some ⟨wx.heap.size, 0, none⟩) N N)).heap.size = wx.heap.size := by simp [set9]
  rw [e] at hz
  exact made_end h.sok h.dok h.pok h.tok ((Blk.set9 hr1 _ _ _ _ _ _ _ _ _).alloc _) hz ((hd1.own hk hne (Nat.le_refl _) h.dk.2.le hg).alloc _) hs hdf

set_option maxHeartbeats 4000000 in
theorem made_any (B g : Nat) (w : World) (hd : DeckOk w B g) :
    Calls Try.prog 13 #[.pointer (some ⟨g, 0, none⟩)] w fun e w' =>
      ∃ (s d : Ad) (proto ttl : Int) (v : Value) (bs : List Int), e = .returned (pkV s d proto ttl v) ∧ s.ok ∧ d.ok ∧ (0 ≤ proto ∧ proto ≤ 256) ∧ (0 ≤ ttl ∧ ttl ≤ 256) ∧ BsOk g w' v bs ∧ DkR w B g w' := by
  have hg := hd.lt
  go_enter Try.func13, Try.ntmps13
  go_wp2_with fail
  have hdr : DkR w B g (w.alloc (.cells zero9 34)) := ⟨(Keep.refl _ _).alloc _, hd.alloc _⟩
  have hb0 : Blk (w.alloc (.cells zero9 34)) w.heap.size 34 zero9 := Blk.new _ _ _
  have hne : ¬ w.heap.size = g := by omega
  go_cut [3] (fun v wx => PkR w B g w.heap.size v wx)
  case first =>
    refine wp_region_facts (by kernel_rfl) 18 [some 4, some 5, some 6, some 7, some 8, some 9, some 10, some 11, some 12, some 13, some 14, some 15, some 16, some 17, some 18, some 19, some 20, some 3] rfl rfl (· = g) (madeF g w.heap.size) (fun wq => DkR w B g wq ∧ Blk wq w.heap.size 34 zero9) 46 (by kernel_rfl) (by kernel_rfl) (by kernel_rfl) (by kernel_rfl) (by kernel_rfl) rfl (by kernel_rfl) ?_ ?_ ?_
    · exact ⟨hdr.drew, hb0⟩
    · intro x wq hR hA
      obtain ⟨-, -, -, -, -, -, -, -, -, -, -, -, -, -, -, -, ⟨s, d, proto, ttl, v, bs, hx, hs, hd2, hp, ht, hbs⟩, ⟨k, hy, hkg, hkb, hkr⟩, -⟩ := hA
      obtain ⟨A, n, c, rfl⟩ := hbs.slice
      simp only [Nat.zero_add, Nat.reduceAdd] at hx hy
      simp only [fillL, Nat.zero_add, Nat.reduceAdd, Act.put, List.setIfInBounds_toArray, List.set_cons_succ, List.set_cons_zero, List.drop_succ_cons, List.drop_zero, hx, hy]
      clear hx hy
      have c0 : wq.cell? ⟨k, 0, none⟩ = some (.bool false) := hkb.cell 0
      have c1 : wq.cell? ⟨k, 1, none⟩ = some (.int .u64 0) := hkb.cell 1
      have c2 : wq.cell? ⟨k, 2, none⟩ = some (.int .u64 0) := hkb.cell 2
      have c3 : wq.cell? ⟨k, 3, none⟩ = some (.bool false) := hkb.cell 3
      have c4 : wq.cell? ⟨k, 4, none⟩ = some (.int .u64 0) := hkb.cell 4
      have c5 : wq.cell? ⟨k, 5, none⟩ = some (.int .u64 0) := hkb.cell 5
      have c6 : wq.cell? ⟨k, 6, none⟩ = some (.int .i64 0) := hkb.cell 6
      have c7 : wq.cell? ⟨k, 7, none⟩ = some (.int .i64 0) := hkb.cell 7
      have c8 : wq.cell? ⟨k, 8, none⟩ = some (.slice none 0 0) := hkb.cell 8
      have hfz := hkb.frozen
      unfold pkV
      go_wp2_with fail
      go_meet
      exact pkR_new hg hR.1 hR.2 hkb (by omega) hkg (by omega) hs hd2 hp ht hbs
    · refine EachOp.cons ?_ (EachOp.cons ?_ (EachOp.cons ?_ (EachOp.cons ?_ (EachOp.cons ?_ (EachOp.cons ?_ (EachOp.cons ?_ (EachOp.cons ?_ (EachOp.cons ?_ (EachOp.cons ?_ (EachOp.cons ?_ (EachOp.cons ?_ (EachOp.cons ?_ (EachOp.cons ?_ (EachOp.cons ?_ (EachOp.cons ?_ (EachOp.cons ?_ (EachOp.cons ?_ EachOp.nil)))))))))))))))))
      all_goals (intro r wq hR hc hf ho hk K hK)
      all_goals (have hR1 := hR.1; have hR2 := hR.2; clear hR; have hK1 : ∀ x w', DkR w B g w' → Keep (· = g) wq w' → _ → K x w' := fun x w' h1 h2 h3 => hK x w' ⟨h1, hR2.kept h2 hne⟩ h2 h3)
      · exact opv_deck (ho 0 rfl) hR1 hK1
      · have h1 : r (.tmp 4) = .pointer (some ⟨g, 0, none⟩) := hk.1
        unfold OpV; go_simp; exact opv_addr hR1 hK1
      · exact opv_deck (ho 0 rfl) hR1 hK1
      · have h1 : r (.tmp 6) = .pointer (some ⟨g, 0, none⟩) := hk.1
        unfold OpV; go_simp; exact opv_addr hR1 hK1
      · unfold OpV; go_simp; exact new_row hR1 hK1
      · exact opv_deck (ho 0 rfl) hR1 hK1
      · have h1 : r (.tmp 9) = .pointer (some ⟨g, 0, none⟩) := hk.1
        unfold OpV; go_simp; exact opv_next 7 (by omega) (by omega) hR1 hK1
      · exact opv_index_i64 (by omega) (by omega) protoRow_at hk.1 hk.2.1 hR1 hK1
      · exact opv_load_i64 (isN_int _) hk.1 hR1 hK1
      · unfold OpV; go_simp; exact new_row hR1 hK1
      · exact opv_deck (ho 0 rfl) hR1 hK1
      · have h1 : r (.tmp 14) = .pointer (some ⟨g, 0, none⟩) := hk.1
        unfold OpV; go_simp; exact opv_next 5 (by omega) (by omega) hR1 hK1
      · exact opv_index_i64 (by omega) (by omega) ttlRow_at hk.1 hk.2.1 hR1 hK1
      · exact opv_load_i64 (isN_int _) hk.1 hR1 hK1
      · exact opv_deck (ho 0 rfl) hR1 hK1
      · have h1 : r (.tmp 18) = .pointer (some ⟨g, 0, none⟩) := hk.1
        unfold OpV; go_simp; exact opv_dbytes hR1 hK1
      · obtain ⟨s, e1, hs⟩ := hk.1
        obtain ⟨d, e2, hd2⟩ := hk.2.1
        obtain ⟨p, e3, hp⟩ := hk.2.2.1
        obtain ⟨t, e4, ht⟩ := hk.2.2.2.1
        obtain ⟨bs, hbs⟩ := hk.2.2.2.2.1
        replace hbs : BsOk g wq (r (.tmp 19)) bs := hbs
        unfold addrV at e1 e2
        obtain ⟨A, n, c, e5⟩ := hbs.slice
        rw [e5] at hbs
        clear hk
        unfold OpV; go_simp
        exact hK1 _ _ hR1 (Keep.refl _ _) ⟨s, d, p, t, _, bs, rfl, hs, hd2, hp, ht, hbs⟩
      · unfold OpV; go_simp
        exact hK1 _ _ (hR1.alloc _) ((Keep.refl _ _).alloc _) ⟨wq.heap.size, rfl, by have := lt_deck hR1; omega, Blk.new _ _ _, hR2.lt⟩
  case rest =>
    obtain ⟨k, s, d, p, t, dv, bs, rfl, hP⟩ := hcut
    obtain ⟨A, n, c, rfl⟩ := hP.dat.slice
    clear hdr hb0
    go_wp2_with fail
    refine (next_any B g _ _ (by omega) (by omega) hP.dk.2).mono ?_
    rintro e w1 ⟨q, rfl, hq, hg1, hz1, hd2⟩
    replace hP := hP.on (keep_of hg1) hd2 hne
    clear hg1 hd2 hz1
    go_upto_if 23 with (fail)
    go_cut [3] (fun v wx => PkR w B g w.heap.size v wx)
    case first =>
      by_cases hq0 : 0 < q
      · obtain ⟨c0, c1, c2, c3, c4, c5, c6, c7, c8, cf⟩ := pk_cells hP.blk
        go_wp2_with fail
        have hP2 := hP.dst (keep_three _ _ _) s hP.sok (hP.blk.set3at s) hg
        clear c0 c1 c2 c3 c4 c5 c6 c7 c8 cf hP
        generalize ((w1.setCell ⟨k, 3, none⟩ (.bool s.v6)).setCell ⟨k, 4, none⟩ (.int .u64 s.hi)).setCell ⟨k, 5, none⟩ (.int .u64 s.lo) = w2 at *
        refine wp_region_facts (by kernel_rfl) 7 [some 27, some 28, some 29, some 30, some 31, some 32, some 33] rfl rfl (· = g) (xorF g k s.lo) (DkR w2 B g) 46 (by kernel_rfl) (by kernel_rfl) (by kernel_rfl) (by kernel_rfl) (by kernel_rfl) rfl (by kernel_rfl) ?_ ?_ ?_
        · exact ⟨(Keep.refl _ _).drew, hP2.dk.2.drew⟩
        · intro x wq hR hA
          obtain ⟨-, -, -, -, -, -, ⟨m, hx, hm⟩, -⟩ := hA
          replace hP2 := hP2.on hR.1 hR.2 hne
          obtain ⟨c0, c1, c2, c3, c4, c5, c6, c7, c8, cf⟩ := pk_cells hP2.blk
          simp only [Nat.zero_add, Nat.reduceAdd] at hx
          simp only [fillL, Nat.zero_add, Nat.reduceAdd, Act.put, List.setIfInBounds_toArray, List.set_cons_succ, List.set_cons_zero, List.drop_succ_cons, List.drop_zero, hx]
          clear hx
          go_wp2_with fail
          go_meet
          exact ⟨k, s, _, p, t, _, bs, rfl, hP2.dst (keep_one (p := ⟨k, 5, none⟩) _) ⟨s.v6, s.hi, _⟩ (xor_ok hP2.sok hm) (hP2.blk.setLo _) hg⟩
        · refine EachOp.cons ?_ (EachOp.cons ?_ (EachOp.cons ?_ (EachOp.cons ?_ (EachOp.cons ?_ (EachOp.cons ?_ (EachOp.cons ?_ EachOp.nil))))))
          all_goals (intro r wq hR hc hf ho hk K hK)
          · have h0 : r (.tmp 3) = .pointer (some ⟨k, 0, none⟩) := ho 3 rfl
            unfold OpV; go_simp; exact hK _ _ hR (Keep.refl _ _) rfl
          · have h1 : r (.tmp 27) = .pointer (some ⟨k, 3, none⟩) := hk.1
            unfold OpV; go_simp; exact hK _ _ hR (Keep.refl _ _) rfl
          · have h1 : r (.tmp 28) = .pointer (some ⟨k, 5, none⟩) := hk.1
            have c5 : wq.cell? ⟨k, 5, none⟩ = some (.int .u64 s.lo) := (hP2.on hR.1 hR.2 hne).blk.cell 5
            unfold OpV; go_simp; exact hK _ _ hR (Keep.refl _ _) rfl
          · exact opv_deck (ho 0 rfl) hR hK
          · have h1 : r (.tmp 30) = .pointer (some ⟨g, 0, none⟩) := hk.1
            unfold OpV; go_simp; exact opv_next 256 (by omega) (by omega) hR hK
          · obtain ⟨m, h1, hm⟩ := hk.1
            have hm2 : (m : Int) < 256 := by omega
            unfold OpV; go_simp; exact hK _ _ hR (Keep.refl _ _) ⟨m, by rw [IntKind.wrap_u64]; congr 1; omega, hm⟩
          · have h1 : r (.tmp 29) = .int .u64 s.lo := hk.1
            obtain ⟨m, h2, hm⟩ := hk.2.1
            unfold OpV; go_simp; exact hK _ _ hR (Keep.refl _ _) ⟨m, rfl, hm⟩
      · go_wp2_with fail
        go_meet
        exact ⟨k, s, d, p, t, _, bs, rfl, hP⟩
    case rest =>
      clear hP
      obtain ⟨k, s, d, p, t, dv, bs, rfl, hP⟩ := hcut
      obtain ⟨A, n, c, rfl⟩ := hP.dat.slice
      go_wp2_with fail
      refine (next_any B g _ _ (by omega) (by omega) hP.dk.2).mono ?_
      rintro e w1 ⟨q, rfl, hq, hg1, hz1, hd2⟩
      replace hP := hP.on (keep_of hg1) hd2 hne
      clear hg1 hd2 hz1
      by_cases hq0 : q = 11
      · subst hq0
        go_wp2_with fail
        refine (next_any B g _ _ (by omega) (by omega) hP.dk.2).mono ?_
        rintro e w2 ⟨m, rfl, hm, hg1, hz1, hd2⟩
        replace hP := hP.on (keep_of hg1) hd2 hne
        clear hg1 hd2 hz1
        obtain ⟨N, HN, hN⟩ : ∃ N : Nat, Hid (1460 + (m : Int) * 10 = (N : Int)) ∧ N ≤ 1480 := ⟨1460 + m * 10, by show _ = _; omega, by omega⟩
        have hmk := fun w => run_make_row' (P := Try.prog) 22 5 (.int .u8 0) 1 Try.underlying22 Try.infoU8 rfl .i64 .i64 N (by omega) (by omega) w
        have hwr : IntKind.i64.wrap ((m : Int) * 10) = (m : Int) * 10 := IntWalk.i64_in _ (by omega)
        obtain ⟨c0, c1, c2, c3, c4, c5, c6, c7, c8, cf⟩ := pk_cells hP.blk
        obtain ⟨e0, e1, e2, e3, e4, e5, e6, e7, e8, ef⟩ := pk_cells (s := ⟨false, 0, 0⟩) (d := ⟨false, 0, 0⟩) (p := 0) (t := 0) (v := .slice none 0 0) hP.res
        have hkr := hP.kr
        have hrk : ¬ w.heap.size = k := fun e => hkr e.symm
        have hk2 : k < w2.heap.size := hP.blk.lt
        have hr2 : w.heap.size < w2.heap.size := hP.res.lt
        have HM := Lib.hid hmk
        clear hmk
        go_wp2_with fail
        rw [HN.out, HM.out]
        clear hwr hq hm
        obtain ⟨Z, HZ⟩ : ∃ Z, Hid (madeCells #[.int .u8 0] N = Z) := ⟨_, rfl⟩
        simp only [Result.andThen_ok, Oper.upon_value, HZ.out]
        clear HN HM
        have HP := Lib.hid hP
        clear hP
        go_wp21
        go_wp21
        go_wp21
        rw [← HZ.out]
        exact made_ret0 HP.out hN hg hne rfl rfl
      · have hqf : ((q : Int) == 11) = false := by simp; omega
        obtain ⟨c0, c1, c2, c3, c4, c5, c6, c7, c8, cf⟩ := pk_cells hP.blk
        obtain ⟨e0, e1, e2, e3, e4, e5, e6, e7, e8, ef⟩ := pk_cells (s := ⟨false, 0, 0⟩) (d := ⟨false, 0, 0⟩) (p := 0) (t := 0) (v := .slice none 0 0) hP.res
        go_wp2_with fail
        exact made_ret hP hg hne rfl rfl

end Go.Proofs.Ytcdfmgkcadpgbaa
