/-
  A message, read by the program.
-/
import Derived.Test.YtopkbpigaengeaaDoorAk
import Derived.Test.YtopkbpigaengeaaDoorAf
import Derived.Deep.MidRow
import Derived.Deep.CutBlock
namespace Go.Proofs.YtopkbpigaengeaaDoor
open Go.RowKit

def opM (bs : List Int) : Int := gB bs 6 * 256 + gB bs 7
def macAt (bs : List Int) (k : Nat) : Mac := ⟨gB bs k, gB bs (k + 1), gB bs (k + 2), gB bs (k + 3), gB bs (k + 4), gB bs (k + 5)⟩
def adAt (bs : List Int) (k : Nat) : Ad := ⟨false, (fb ((bs.drop k).take 4)).1, (fb ((bs.drop k).take 4)).2⟩
def rdM (bs : List Int) : Msg := ⟨opM bs, macAt bs 8, adAt bs 14, macAt bs 18, adAt bs 24⟩
/-- what reading a message answers -/
def codeM (bs : List Int) : Int := if bs.length < 28 then 4 else if bs.take 6 = headB ∧ (opM bs = 1 ∨ opM bs = 2) then 0 else 5
def decM (bs : List Int) : Msg := if codeM bs = 0 then rdM bs else msg0

theorem or_bytes {x y : Int} (hx : 0 ≤ x ∧ x ≤ 255) (hy : 0 ≤ y ∧ y ≤ 255) : bits .or .i64 (x * 256) y = x * 256 + y := by
  obtain ⟨a, rfl⟩ := Int.eq_ofNat_of_zero_le hx.1
  obtain ⟨b, rfl⟩ := Int.eq_ofNat_of_zero_le hy.1
  have h1 : ((a : Int) * 256) = ((2 ^ 8 * a : Nat) : Int) := by omega
  rw [h1, i64_or_nat (2 ^ 8 * a) b (by omega) (by omega), ← Nat.two_pow_add_eq_or_of_lt (i := 8) (by omega) a]
  omega
theorem take_isB {bs : List Int} (h : IsB bs) (k : Nat) : IsB (bs.take k) := fun x hx => h x (List.mem_of_mem_take hx)
theorem drop_isB {bs : List Int} (h : IsB bs) (k : Nat) : IsB (bs.drop k) := fun x hx => h x (List.mem_of_mem_drop hx)
theorem adAt_ok {bs : List Int} (h : IsB bs) {k : Nat} (hk : k + 4 ≤ bs.length) : Ad4 (adAt bs k) := by
  obtain ⟨a, b, c⟩ := fb4 (l := (bs.drop k).take 4) (by simp; omega) (take_isB (drop_isB h k) 4)
  exact ⟨rfl, a, b, c⟩
theorem validM_rd {bs : List Int} (h : IsB bs) (hl : 28 ≤ bs.length) : validM (rdM bs) = (opM bs == 1 || opM bs == 2) := by
  obtain ⟨s1, s2, s3, s4⟩ := adAt_ok h (k := 14) (by omega)
  obtain ⟨d1, d2, d3, d4⟩ := adAt_ok h (k := 24) (by omega)
  unfold validM rdM validA
  simp only [s1, s2, d1, d2]
  simp [s4, d4]
theorem macAt_ok {bs : List Int} (h : IsB bs) (k : Nat) : MacOk (macAt bs k) := ⟨h.at _, h.at _, h.at _, h.at _, h.at _, h.at _⟩

/-- results of a function that answers a message and a code -/
theorem results_arp2 {fn : Func} {q u : Tmp} (h : fn.results = #[.cell q 29, .tmp u]) {tmps : Array Value} {w : World} {k : Nat} {m : Msg} {v : Value}
    (hs : tmps.getD q undef = .pointer (some ⟨k, 0, none⟩)) (hv : tmps.getD u undef = v) (hb : Blk w k 29 (arpC m)) : (results fn tmps).run Tryd.prog w = .ok (.tuple #[arpV m, v]) w := by
  have hl := run_loadVar_row w k 29 29 (arpC m) (0, 0) _ hb Tryd.underlying29 rfl Tryd.sizeArp
  have hs' : tmps[q]?.getD undef = .pointer (some ⟨k, 0, none⟩) := by simpa using hs
  have hv' : tmps[u]?.getD undef = v := by simpa using hv
  simp only [results, h]
  simp [hs', hv', asAddr, hl, arpV, arpC]

theorem arp_set7 {w : World} {k : Nat} {t : TypeId} {m : Msg} (h : Blk w k t (arpC m)) (s : Ad) :
    Blk (((w.setCell ⟨k, 7, none⟩ (.bool s.v6)).setCell ⟨k, 8, none⟩ (.int .u64 s.hi)).setCell ⟨k, 9, none⟩ (.int .u64 s.lo)) k t (arpC ⟨m.op, m.fm, s, m.tm, m.da⟩) ∧
    Keep (· = k) w (((w.setCell ⟨k, 7, none⟩ (.bool s.v6)).setCell ⟨k, 8, none⟩ (.int .u64 s.hi)).setCell ⟨k, 9, none⟩ (.int .u64 s.lo)) := by
  constructor
  · have := ((h.set_ 7 (.bool s.v6)).set_ 8 (.int .u64 s.hi)).set_ 9 (.int .u64 s.lo)
    simpa [arpC] using this
  · exact Keep.setCell (X := (· = k)) (Keep.setCell (X := (· = k)) (Keep.setCell (X := (· = k)) (Keep.refl _ w) (p := ⟨k, 7, none⟩) (.inr rfl) _) (p := ⟨k, 8, none⟩) (.inr rfl) _) (p := ⟨k, 9, none⟩) (.inr rfl) _
theorem arp_set16 {w : World} {k : Nat} {t : TypeId} {m : Msg} (h : Blk w k t (arpC m)) (s : Ad) :
    Blk (((w.setCell ⟨k, 16, none⟩ (.bool s.v6)).setCell ⟨k, 17, none⟩ (.int .u64 s.hi)).setCell ⟨k, 18, none⟩ (.int .u64 s.lo)) k t (arpC ⟨m.op, m.fm, m.sa, m.tm, s⟩) ∧
    Keep (· = k) w (((w.setCell ⟨k, 16, none⟩ (.bool s.v6)).setCell ⟨k, 17, none⟩ (.int .u64 s.hi)).setCell ⟨k, 18, none⟩ (.int .u64 s.lo)) := by
  constructor
  · have := ((h.set_ 16 (.bool s.v6)).set_ 17 (.int .u64 s.hi)).set_ 18 (.int .u64 s.lo)
    simpa [arpC] using this
  · exact Keep.setCell (X := (· = k)) (Keep.setCell (X := (· = k)) (Keep.setCell (X := (· = k)) (Keep.refl _ w) (p := ⟨k, 16, none⟩) (.inr rfl) _) (p := ⟨k, 17, none⟩) (.inr rfl) _) (p := ⟨k, 18, none⟩) (.inr rfl) _

/-- six bytes of a row, read as a station -/
theorem mac_range {w : World} {b off n B : Nat} {bs : List Int} (h : Reads w B 1 (some ⟨b, off, none⟩) n (bytesV bs)) {k : Nat} (hk : k + 6 ≤ bs.length) : w.rangeAt b (off + k) (macC (macAt bs k)).toList := by
  have hl := h.1
  rw [bytesV_len] at hl
  obtain ⟨b', off', e, hb, hc⟩ := h.2 (by omega)
  injection e with e
  injection e with e1 e2 e3
  subst e1 e2
  intro j v hv
  have hg : ∀ i, i < 6 → w.cell? ⟨b, off + k + i, none⟩ = some (.int .u8 (gB bs (k + i))) := fun i hi => by
    rw [Nat.add_assoc]
    exact hc (k + i) _ (bytesV_get bs (k + i) (by omega))
  match j, hv with
  | 0, hv => rw [← hv]; exact hg 0 (by omega)
  | 1, hv => rw [← hv]; exact hg 1 (by omega)
  | 2, hv => rw [← hv]; exact hg 2 (by omega)
  | 3, hv => rw [← hv]; exact hg 3 (by omega)
  | 4, hv => rw [← hv]; exact hg 4 (by omega)
  | 5, hv => rw [← hv]; exact hg 5 (by omega)
theorem opv_macAt {o : Oper} {w : World} {r : Operand → Value} {K : Value → World → Prop} (x : Operand) (ho : o.op = .load 24 x) {b off n B : Nat} {bs : List Int} (k : Nat) (hx : r x = .pointer (some ⟨b, off + k, none⟩))
    (h : Reads w B 1 (some ⟨b, off, none⟩) n (bytesV bs)) (hk : k + 6 ≤ bs.length) (hK : K (macV (macAt bs k)) w) : OpV Tryd.prog o r w K := by
  unfold OpV execOp
  simp only [ho, hx, Sem.run_bind, Sem.run_pure, Result.andThen_ok, run_loadAt_mid w b (off + k) 24 (macC (macAt bs k)).toList _ (mac_range h hk) Tryd.underlying24 rfl Tryd.sizeMac]
  exact hK
theorem opv_arrayAt {o : Oper} {w : World} {r : Operand → Value} {K : Value → World → Prop} (x : Operand) (ho : o.op = .sliceToArrayPointer 24 x) {A : Option Addr} {c : Nat} (hx : r x = .slice A 6 c)
    (hK : K (.pointer A) w) : OpV Tryd.prog o r w K := by
  unfold OpV execOp
  simp only [ho, hx, Sem.run_bind, Sem.run_pure, Result.andThen_ok, run_arrayAt 24 5 6 A 6 c Tryd.underlying24 (Nat.le_refl _)]
  exact hK
theorem Reads.part {w : World} {b off n : Nat} {bs : List Int} (h : Reads w w.heap.size 1 (some ⟨b, off, none⟩) n (bytesV bs)) {k m : Nat} (hk : k + m ≤ n) (h0 : 0 < m) : Reads w w.heap.size 1 (some ⟨b, off + k, none⟩) m (bytesV ((bs.drop k).take m)) :=
  (h.from (k := k) (by omega)).take (by omega)

theorem str_n {w : World} {B c n : Nat} {A : Option Addr} {bs : List Int} (h : Reads w B 1 A n (bytesV bs)) : (convert 38 9 (.slice A n c)).run Tryd.prog w = .ok (.string (strOfNums bs)) w := by
  have hl := h.1
  rw [bytesV_len] at hl
  obtain rfl : bs.length = n := by omega
  exact str_any h
theorem toU_inj : ∀ {a b : List Int}, IsB a → IsB b → toU a = toU b → a = b
  | [], [], _, _, _ => rfl
  | [], _ :: _, _, _, h => by simp [toU] at h
  | _ :: _, [], _, _, h => by simp [toU] at h
  | x :: a, y :: b, ha, hb, h => by
    simp only [toU, List.map_cons, List.cons.injEq] at h
    have hx := ha x (by simp)
    have hy := hb y (by simp)
    have e : x = y := by
      have h1 := congrArg UInt8.toNat h.1
      rw [UInt8.toNat_ofNat', UInt8.toNat_ofNat'] at h1
      omega
    rw [e, toU_inj (fun z hz => ha z (by simp [hz])) (fun z hz => hb z (by simp [hz])) h.2]
theorem eq_bytes {a b : List Int} (ha : IsB a) (hb : IsB b) : (Lib.bytesOf a == Lib.bytesOf b) = decide (a = b) := by
  by_cases h : a = b
  · subst h; simp
  · have : ¬ Lib.bytesOf a = Lib.bytesOf b := fun e => h (toU_inj ha hb e)
    simp [h, this]
theorem str_ne {a b : List Int} (ha : IsB a) (hb : IsB b) (h : a ≠ b) : strOfNums a ≠ strOfNums b := by
  intro e
  have e2 := congrArg (fun s : ByteArray => s.data.toList) e
  simp only [strOfNums_data] at e2
  exact h (toU_inj ha hb e2)

end Go.Proofs.YtopkbpigaengeaaDoor
