/-
  The database of members as the abstract machine sees it; keys of its maps.
-/
import Derived.Test.YtcidmiacfjdepaaDoorQb
import Derived.Test.YtcidmiacfjdepaaDoorMab
namespace Go.Proofs.YtcidmiacfjdepaaDoor
open Go.RowKit

structure Prt where
  id : Int
  sw : Int
  speed : Int
  macs : List (List Int)
  v4 : Ad
  v6 : Ad
structure Mem where
  asn : Int
  name : ByteArray
  set : ByteArray
  max4 : Int
  max6 : Int
  ports : List Prt
structure Pre where
  ad : Ad
  len : Int
structure Db where
  lan4 : Pre
  lan6 : Pre
  servers : List Mem
  members : List Mem
def macsC (l : List (List Int)) : List AV := l.flatMap bytesC
def prtC (p : Prt) : List AV := [.base (.int .i64 p.id), .base (.int .i64 p.sw), .base (.int .i64 p.speed), .isl (macsC p.macs) p.macs.length] ++ adC p.v4 ++ adC p.v6
def prtsC (l : List Prt) : List AV := l.flatMap prtC
def memC (m : Mem) : List AV := [.base (.int .i64 m.asn), .base (.string m.name), .base (.string m.set), .base (.int .i64 m.max4), .base (.int .i64 m.max6), .isl (prtsC m.ports) m.ports.length]
def memsC (l : List Mem) : List AV := l.flatMap memC
def preC (p : Pre) : List AV := adC p.ad ++ [.base (.int .i64 p.len)]
def dbC (d : Db) : List AV := preC d.lan4 ++ preC d.lan6 ++ [.isl (memsC d.servers) d.servers.length, .isl (memsC d.members) d.members.length]
/-- a row of parts that are all of one size -/
theorem flat_tk {α : Type} {c : α → List AV} {n : Nat} (hc : ∀ x, (c x).length = n) {l : List α} {k : Nat} (h : k < l.length) : Tk (l.flatMap c) (k * n) n (c l[k]) := by
  refine ⟨hc _, fun j d hj => ?_⟩
  have hjn : j < n := by have := (List.getElem?_eq_some_iff.1 hj).1; rwa [hc] at this
  induction l generalizing k with
  | nil => simp at h
  | cons x l ih =>
    rw [List.flatMap_cons]
    cases k with
    | zero =>
      rw [Nat.zero_mul, Nat.zero_add, List.getElem?_append_left (by rw [hc]; exact hjn)]
      simpa using hj
    | succ k =>
      rw [show (k + 1) * n + j = n + (k * n + j) from by rw [Nat.succ_mul]; omega]
      rw [List.getElem?_append_right (by rw [hc]; omega), hc, show n + (k * n + j) - n = k * n + j from by omega]
      exact ih (by simpa using h) (by simpa using hj)
theorem prts_tk {l : List Prt} {k : Nat} (h : k < l.length) : Tk (prtsC l) (k * 10) 10 (prtC l[k]) := flat_tk (c := prtC) (fun _ => rfl) h
theorem mems_tk {l : List Mem} {k : Nat} (h : k < l.length) : Tk (memsC l) (k * 6) 6 (memC l[k]) := flat_tk (c := memC) (fun _ => rfl) h
theorem macs_tk {l : List (List Int)} (hl : ∀ m, m ∈ l → m.length = 6) {k : Nat} (h : k < l.length) : Tk (macsC l) (k * 6) 6 (bytesC l[k]) := by
  have key : ∀ (q : List (List Int)) (k : Nat) (h : k < q.length), (∀ m, m ∈ q → m.length = 6) → ∀ (j : Nat) d, (bytesC q[k])[j]? = some d → (macsC q)[k * 6 + j]? = some d := by
    intro q
    induction q with
    | nil => intro k h; simp at h
    | cons x q ih =>
      intro k h hq j d hj
      have hx : (bytesC x).length = 6 := by rw [bytesC_len]; exact hq x (by simp)
      have hjn : j < 6 := by
        have h1 := (List.getElem?_eq_some_iff.1 hj).1
        rw [bytesC_len, hq _ (List.getElem_mem h)] at h1
        exact h1
      show (bytesC x ++ macsC q)[k * 6 + j]? = some d
      cases k with
      | zero =>
        rw [Nat.zero_mul, Nat.zero_add, List.getElem?_append_left (by rw [hx]; exact hjn)]
        simpa using hj
      | succ k =>
        rw [List.getElem?_append_right (by rw [hx]; omega), hx, show (k + 1) * 6 + j - 6 = k * 6 + j from by omega]
        exact ih k (by simpa using h) (fun m hm => hq m (by simp [hm])) j d (by simpa using hj)
  exact ⟨by rw [bytesC_len]; exact hl _ (List.getElem_mem h), key l k h hl⟩
def macV (m : List Int) : Value := .agg (m.map fun x => Value.int .u8 x).toArray
def adV (a : Ad) : Value := .agg [.bool a.v6, .int .u64 a.hi, .int .u64 a.lo].toArray
theorem kv_mac (m : List Int) : KV (.agg (bytesC m)) (macV m) := by
  have := KV.agg (m.map fun x => Value.int .u8 x)
  rw [List.map_map] at this
  exact this
theorem kv_ad (a : Ad) : KV (.agg (adC a)) (adV a) := KV.agg [.bool a.v6, .int .u64 a.hi, .int .u64 a.lo]
theorem Tryd.laid11 : laidOutB Tryd.prog = true := by kernel_rfl
theorem mk_mac : MKey Tryd.prog 50 (kdOf Tryd.prog 50) := mk_agg Tryd.laid11 (of_decide_eq_true (by kernel_rfl)) (by kernel_rfl) (by kernel_rfl)
theorem mk_ad : MKey Tryd.prog 25 (kdOf Tryd.prog 25) := mk_agg Tryd.laid11 (of_decide_eq_true (by kernel_rfl)) (by kernel_rfl) (by kernel_rfl)
theorem wf_u8 {x : Int} (h0 : 0 ≤ x) (h1 : x ≤ 255) : (Lit.int .u8 x).wf = true := by
  unfold Lit.wf
  simp only [IntKind.min, IntKind.max, IntKind.signed, IntKind.bits, Bool.and_eq_true]
  constructor
  · simpa using h0
  · have : x ≤ (2 ^ 8 : Int) - 1 := by omega
    simpa using this
theorem wf_u64 {x : Int} (h0 : 0 ≤ x) (h1 : x ≤ 18446744073709551615) : (Lit.int .u64 x).wf = true := by
  unfold Lit.wf
  simp only [IntKind.min, IntKind.max, IntKind.signed, IntKind.bits, Bool.and_eq_true]
  constructor
  · simpa using h0
  · have : x ≤ (2 ^ 64 : Int) - 1 := by omega
    simpa using this
theorem kd_mac {m : List Int} (hl : m.length = 6) (hb : ∀ x, x ∈ m → 0 ≤ x ∧ x ≤ 255) : kdOf Tryd.prog 50 (macV m) := by
  refine kd_agg (by kernel_rfl) (by kernel_rfl) (by rw [show Tryd.prog.cellsOf 50 = 6 from by kernel_rfl]; simp [hl]) ?_
  obtain ⟨d, hd⟩ : ∃ d, Tryd.prog.types.size = d + 1 := ⟨_, show Tryd.prog.types.size = (Tryd.prog.types.size - 1) + 1 from by kernel_rfl⟩
  rw [hd, List.toList_toArray]
  exact lits_arr (e := 5) (n := 6) (q := .u8) (by kernel_rfl) (by kernel_rfl) (by kernel_rfl) (by kernel_rfl) hl (fun x hx => wf_u8 (hb x hx).1 (hb x hx).2) d
noncomputable def fsAd : Array Field := match Tryd.prog.underlying 25 with
  | some (.struct fs) => fs
  | _ => #[]
theorem fields_ad : ∃ f1 f2 f3 : Field, Tryd.prog.underlying 25 = some (.struct #[f1, f2, f3]) ∧ f1.offset = 0 ∧ f2.offset = 1 ∧ f3.offset = 2 ∧ f1.type = 4 ∧ f2.type = 23 ∧ f3.type = 23 ∧ (f1.name != "_") = true ∧ (f2.name != "_") = true ∧ (f3.name != "_") = true :=
  ⟨fsAd[0]!, fsAd[1]!, fsAd[2]!, by kernel_rfl, by kernel_rfl, by kernel_rfl, by kernel_rfl, by kernel_rfl, by kernel_rfl, by kernel_rfl, by kernel_rfl, by kernel_rfl, by kernel_rfl⟩
theorem kd_ad {a : Ad} (h0 : 0 ≤ a.hi ∧ a.hi ≤ 18446744073709551615) (h1 : 0 ≤ a.lo ∧ a.lo ≤ 18446744073709551615) : kdOf Tryd.prog 25 (adV a) := by
  refine kd_agg (by kernel_rfl) (by kernel_rfl) (by rw [show Tryd.prog.cellsOf 25 = 3 from by kernel_rfl]; rfl) ?_
  obtain ⟨d, hd⟩ : ∃ d, Tryd.prog.types.size = d + 1 := ⟨_, show Tryd.prog.types.size = (Tryd.prog.types.size - 1) + 1 from by kernel_rfl⟩
  obtain ⟨f1, f2, f3, hf, o1, o2, o3, t1, t2, t3, n1, n2, n3⟩ := fields_ad
  rw [hd]
  have c3 : Tryd.prog.cellsOf 25 = 3 := by kernel_rfl
  have cb : Tryd.prog.cellsOf 4 = 1 := by kernel_rfl
  have cu : Tryd.prog.cellsOf 23 = 1 := by kernel_rfl
  unfold Program.keyLits
  rw [hf]
  have l1 := lits_bool (P := Tryd.prog) (t := 4) (by kernel_rfl) a.v6 d
  have l2 := lits_int (P := Tryd.prog) (t := 23) (q := .u64) (by kernel_rfl) (wf_u64 h0.1 h0.2) d
  have l3 := lits_int (P := Tryd.prog) (t := 23) (q := .u64) (by kernel_rfl) (wf_u64 h1.1 h1.2) d
  simp [c3, n1, n2, n3, o1, o2, o3, t1, t2, t3, cb, cu, l1, l2, l3, List.mapM_cons]
end Go.Proofs.YtcidmiacfjdepaaDoor
