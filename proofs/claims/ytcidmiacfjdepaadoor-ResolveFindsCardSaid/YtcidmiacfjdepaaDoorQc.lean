/-
  Comparing structs and arrays of numbers.
-/
import Derived.Test.YtcidmiacfjdepaaDoorQb
import Derived.DeepKeys
namespace Go.Proofs.YtcidmiacfjdepaaDoor
open Go.RowKit
theorem rep_bases {X : Nat → Prop} {w : World} {φ : Em} {v : Value} {us : List Value} (h : Rep X w φ v (.agg (us.map AV.base))) : v = .agg us.toArray := by
  cases h with
  | agg vs _ hl h1 h =>
    have hl2 : vs.size = us.length := by simpa using hl
    congr 1
    refine Array.ext (by simpa using hl2) fun i h2 h3 => ?_
    have h4 : i < us.length := by simpa using h3
    have := h i vs[i] (.base us[i]) (by simp [h2]) (by simp [h4])
    simpa using this.base_eq
theorem LO.eq_bases {P : Program} {o : Oper} {E : Operand → Option AV} {H : Hp} {f : Nat} {t ty : TypeId} {x y : Operand} {r : Bool} (neg : Bool) (us vs : List Value) {xs ys : List AV} (ho : o.op = .binOp (if neg then .neq else .eql) t x y ty) (hx : E x = some (.agg xs)) (hy : E y = some (.agg ys)) (e1 : xs = us.map AV.base) (e2 : ys = vs.map AV.base)
    (hg : ∀ w, (eqGuard (if neg then .neq else .eql) t x y (.agg us.toArray) (.agg vs.toArray)).run P w = .ok () w) (h : ∀ w, (Op.equal t (.agg us.toArray) (.agg vs.toArray)).run P w = .ok r w) : LO P o E H f [] [] (.base (.bool (if neg then !r else r))) H := by
  subst e1 e2
  refine .pure fun X φ w ρ hR => ?_
  have h1 := rep_bases (hR x (by simp [ho, Op.operands]) _ hx)
  have h2 := rep_bases (hR y (by simp [ho, Op.operands]) _ hy)
  refine ⟨.bool (if neg then !r else r), ?_, .base _⟩
  cases neg
  · have hg2 := hg w
    simp only [Bool.false_eq_true, if_false] at hg2 ho
    simp [execOp, ho, h1, h2, hg2, Go.binOp, h]
  · have hg2 := hg w
    simp only [if_true] at hg2 ho
    simp [execOp, ho, h1, h2, hg2, Go.binOp, h]
theorem guard_run {t : TypeId} {us vs : Array Value} (x y : Operand) (b : Bool) (h : Tryd.prog.eqGuardType Tryd.prog.depth t = false) (w : World) : (eqGuard (if b then .neq else .eql) t x y (.agg us) (.agg vs)).run Tryd.prog w = .ok () w := by
  cases b <;> simp [eqGuard, h]
def eqA (a b : Ad) : Bool := a.v6 == b.v6 && (a.hi == b.hi && a.lo == b.lo)
theorem eqA_iff {a b : Ad} : eqA a b = true ↔ a = b := by
  obtain ⟨a1, a2, a3⟩ := a
  obtain ⟨b1, b2, b3⟩ := b
  simp [eqA]
theorem eqAd_in (d : Nat) (a b : Ad) (w : World) : (Op.equalIn (d + 2) 25 (.agg #[.bool a.v6, .int .u64 a.hi, .int .u64 a.lo]) (.agg #[.bool b.v6, .int .u64 b.hi, .int .u64 b.lo])).run Tryd.prog w = .ok (eqA a b) w := by
  rw [run_equalIn_struct w (d + 1) 25 _ _ (by kernel_rfl) (by kernel_rfl)]
  have hu := Tryd.underlying25
  have hb := Tryd.underlying4
  have hi := Tryd.underlying23
  simp [Program.fieldsOf, hu, Op.eqFields, part, isAgg, run_underlying hb, run_underlying hi, run_equalIn_bool' _ _ _ _ _ hb, run_equalIn_int _ _ _ _ _ _ _ hi]
  unfold eqA
  by_cases h1 : a.v6 = b.v6 <;> by_cases h2 : a.hi = b.hi <;> by_cases h3 : a.lo = b.lo <;> simp [h1, h2, h3]
theorem eqMac_in (d : Nat) {a b : List Int} (ha : a.length = 6) (hb : b.length = 6) (w : World) : (Op.equalIn (d + 2) 50 (.agg (a.map (Value.int .u8)).toArray) (.agg (b.map (Value.int .u8)).toArray)).run Tryd.prog w = .ok (decide (a = b)) w := by
  have hu := Tryd.underlying50
  have hi := Tryd.underlying5
  match a, ha, b, hb with
  | [a0, a1, a2, a3, a4, a5], _, [b0, b1, b2, b3, b4, b5], _ =>
    have hsz : ∀ w : World, (sizeOf 5).run Tryd.prog w = .ok 1 w := fun w => (ty5).sizeOf w
    unfold Op.equalIn
    simp [run_underlying hu, hsz, part, isAgg, run_underlying hi, run_equalIn_int _ _ _ _ _ _ _ hi, Std.Legacy.Range.forIn_eq_forIn_range', Std.Legacy.Range.size, List.range'_succ]
    by_cases h0 : a0 = b0 <;> by_cases h1 : a1 = b1 <;> by_cases h2 : a2 = b2 <;> by_cases h3 : a3 = b3 <;> by_cases h4 : a4 = b4 <;> by_cases h5 : a5 = b5 <;> simp [h0, h1, h2, h3, h4, h5]
/-- messages -/
structure Nb where
  k : Int
  fl : Int
  tg : Ad
  has : Bool
  ln : List Int
def nbC (n : Nb) : List AV := [.base (.int .i64 n.k), .base (.int .i64 n.fl)] ++ adC n.tg ++ [.base (.bool n.has)] ++ bytesC n.ln
def nbV (n : Nb) : List Value := [Value.int .i64 n.k, Value.int .i64 n.fl, Value.bool n.tg.v6, Value.int .u64 n.tg.hi, Value.int .u64 n.tg.lo, Value.bool n.has] ++ n.ln.map (Value.int .u8)
def eqN (a b : Nb) : Bool := a.k == b.k && (a.fl == b.fl && (eqA a.tg b.tg && (a.has == b.has && decide (a.ln = b.ln))))
theorem eqN_iff {a b : Nb} : eqN a b = true ↔ a = b := by
  obtain ⟨a1, a2, a3, a4, a5⟩ := a
  obtain ⟨b1, b2, b3, b4, b5⟩ := b
  simp [eqN, eqA_iff]
theorem eqNb_in (d : Nat) {a b : Nb} (ha : a.ln.length = 6) (hb : b.ln.length = 6) (w : World) : (Op.equalIn (d + 3) 103 (.agg (nbV a).toArray) (.agg (nbV b).toArray)).run Tryd.prog w = .ok (eqN a b) w := by
  rw [run_equalIn_struct w (d + 2) 103 _ _ (by kernel_rfl) (by kernel_rfl)]
  have hu := Tryd.underlying103
  have hua := Tryd.underlying25
  have hum := Tryd.underlying50
  have hbb := Tryd.underlying4
  have hi := Tryd.underlying3
  have sa : ∀ w : World, (sizeOf 25).run Tryd.prog w = .ok 3 w := fun w => (ty25).sizeOf w
  have sm : ∀ w : World, (sizeOf 50).run Tryd.prog w = .ok 6 w := fun w => (ty50).sizeOf w
  have ea := fun w => eqAd_in d a.tg b.tg w
  have em := fun w => eqMac_in d ha hb w
  have xa : ∀ n : Nb, n.ln.length = 6 → (nbV n).toArray.extract 2 5 = #[.bool n.tg.v6, .int .u64 n.tg.hi, .int .u64 n.tg.lo] := fun n _ => by simp [nbV]
  have xm : ∀ n : Nb, n.ln.length = 6 → (nbV n).toArray.extract 6 12 = (n.ln.map (Value.int .u8)).toArray := fun n h => by
    match hn : n.ln, h with
    | [a0, a1, a2, a3, a4, a5], _ => simp [nbV, hn]
  have ca := xa a ha
  have cb := xa b hb
  have da := xm a ha
  have db := xm b hb
  generalize hA : (nbV a).toArray = A at ca da ⊢
  generalize hB : (nbV b).toArray = B at cb db ⊢
  have a0 : A[0]? = some (.int .i64 a.k) := by rw [← hA]; simp [nbV]
  have a1 : A[1]? = some (.int .i64 a.fl) := by rw [← hA]; simp [nbV]
  have a5 : A[5]? = some (.bool a.has) := by rw [← hA]; simp [nbV]
  have b0 : B[0]? = some (.int .i64 b.k) := by rw [← hB]; simp [nbV]
  have b1 : B[1]? = some (.int .i64 b.fl) := by rw [← hB]; simp [nbV]
  have b5 : B[5]? = some (.bool b.has) := by rw [← hB]; simp [nbV]
  simp [Program.fieldsOf, hu, Op.eqFields, part, isAgg, run_underlying hbb, run_underlying hi, run_underlying hua, run_underlying hum, sa, sm, ca, cb, da, db, a0, a1, a5, b0, b1, b5, run_equalIn_bool' _ _ _ _ _ hbb, run_equalIn_int _ _ _ _ _ _ _ hi, ea, em]
  unfold eqN
  by_cases h1 : a.k = b.k <;> by_cases h2 : a.fl = b.fl <;> by_cases h4 : a.has = b.has <;> by_cases h5 : a.ln = b.ln <;> cases h3 : eqA a.tg b.tg <;> simp [h1, h2, h4, h5]
section
variable {o : Oper} {E : Operand → Option AV} {H : Hp} {f : Nat} {ty : TypeId} {x y : Operand}
theorem LO.eql_ad (a b : Ad) (ho : o.op = .binOp .eql 25 x y ty) (hx : E x = some (.agg (adC a))) (hy : E y = some (.agg (adC b))) : LO Tryd.prog o E H f [] [] (.base (.bool (eqA a b))) H :=
  LO.eq_bases false [.bool a.v6, .int .u64 a.hi, .int .u64 a.lo] [.bool b.v6, .int .u64 b.hi, .int .u64 b.lo] ho hx hy rfl rfl (guard_run x y false (by kernel_rfl)) (eqAd_in 9998 a b)
theorem LO.neq_ad (a b : Ad) (ho : o.op = .binOp .neq 25 x y ty) (hx : E x = some (.agg (adC a))) (hy : E y = some (.agg (adC b))) : LO Tryd.prog o E H f [] [] (.base (.bool (!eqA a b))) H :=
  LO.eq_bases true [.bool a.v6, .int .u64 a.hi, .int .u64 a.lo] [.bool b.v6, .int .u64 b.hi, .int .u64 b.lo] ho hx hy rfl rfl (guard_run x y true (by kernel_rfl)) (eqAd_in 9998 a b)
theorem bytesC_bases (l : List Int) : bytesC l = (l.map (Value.int .u8)).map AV.base := by simp [bytesC]
theorem LO.neq_mac (a b : List Int) (ha : a.length = 6) (hb : b.length = 6) (ho : o.op = .binOp .neq 50 x y ty) (hx : E x = some (.agg (bytesC a))) (hy : E y = some (.agg (bytesC b))) : LO Tryd.prog o E H f [] [] (.base (.bool (!decide (a = b)))) H :=
  LO.eq_bases true (a.map (Value.int .u8)) (b.map (Value.int .u8)) ho hx hy (bytesC_bases a) (bytesC_bases b) (guard_run x y true (by kernel_rfl)) (eqMac_in 9998 ha hb)
theorem LO.eql_nb (a b : Nb) (ha : a.ln.length = 6) (hb : b.ln.length = 6) (ho : o.op = .binOp .eql 103 x y ty) (hx : E x = some (.agg (nbC a))) (hy : E y = some (.agg (nbC b))) : LO Tryd.prog o E H f [] [] (.base (.bool (eqN a b))) H :=
  LO.eq_bases false (nbV a) (nbV b) ho hx hy (by simp [nbC, nbV, adC, bytesC]) (by simp [nbC, nbV, adC, bytesC]) (guard_run x y false (by kernel_rfl)) (eqNb_in 9997 ha hb)
end
end Go.Proofs.YtcidmiacfjdepaaDoor
