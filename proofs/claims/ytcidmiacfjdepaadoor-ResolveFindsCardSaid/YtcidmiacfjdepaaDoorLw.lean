/-
  From 'the walk returns true and leaves what lay there as it was' to a statement's row; the arguments that come in, as the abstract machine sees them.
-/
import Derived.Test.YtcidmiacfjdepaaDoorRows
import Derived.Test.YtcidmiacfjdepaaDoorDk
import Derived.ProofKit
namespace Go.Proofs.YtcidmiacfjdepaaDoor
open Go.ChangeShapes Go.WideShapes Go.ChangeAt Go.RowKit

theorem Tryd.own : ownKnob Tryd.prog.godebug = none := by kernel_rfl
theorem Tryd.laidOut : laidOutB Tryd.prog = true := by kernel_rfl

theorem trodAll_stays {H : Type} {enc : TypeId × Value → H} {P : Program} (hl : laidOutB P = true) {W W' : World} {sp' : Nat → Bool} :
    ∀ {ts : List TypeId} {vs : List Value} {ds : List (DataW H)} {ps : List MemPlace}, (∀ t ∈ ts, P.readableRec t = true ∧ t < P.types.size) →
      DataW.TrodAll enc P W 0 (fun _ => true) true ts vs ds ps → (∀ p ∈ ps, W.sameAt W' p) → (∀ p ∈ ps, sp' p.block = true) → DataW.TrodAll enc P W' 0 sp' true ts vs ds ps
  | [], [], [], _, _, h, _, _ => h
  | _ :: _, _ :: _, _ :: _, _, hT, ⟨p, q, h1, h2, e⟩, hsame, hs =>
    ⟨p, q, WideElems.Trod_stays hl (hT _ (List.mem_cons.2 (Or.inl rfl))).1 (hT _ (List.mem_cons.2 (Or.inl rfl))).2 h1 (fun x hx => hsame x (by rw [e]; exact List.mem_append_left _ hx)) (fun x hx => hs x (by rw [e]; exact List.mem_append_left _ hx)),
      trodAll_stays hl (fun t ht => hT t (List.mem_cons.2 (Or.inr ht))) h2 (fun x hx => hsame x (by rw [e]; exact List.mem_append_right _ hx)) (fun x hx => hs x (by rw [e]; exact List.mem_append_right _ hx)), e⟩

theorem law_post {H : Type} {enc : TypeId × Value → H} {P : Program} {f : Func} {s : ChangeSpec} {fresh handsOn again : Bool} {W W' : World} {args : Array Value} {ds gs : List (DataW H)} {before : List MemPlace}
    (hl : laidOutB P = true) (hT : ∀ t ∈ f.params.toList, P.readableRec t = true ∧ t < P.types.size) (tb : TypeId) (hb1 : f.resultTypes = #[tb]) (hb2 : P.underlying tb = some .bool) (hv : s.vars = [])
    (hW : DataW.Whole enc P f.params.toList s.vars false W args.toList ds gs before)
    (hs : (s.fn H (ds ++ gs)).results = [.lit (.bool true)] ∧ (s.fn H (ds ++ gs)).args = ds ∧ (s.fn H (ds ++ gs)).vars = []) (hb : Below W.heap.size W W') :
    s.post enc P f false fresh handsOn again W args (.bool true) W' := by
  have hlt : ∀ p ∈ before, p.block < W.heap.size := fun p hp => hW.lt p hp
  have hW0 := hW
  obtain ⟨p, q, hA, hV, rfl, hz, hn⟩ := hW
  rw [hv] at hV
  obtain ⟨rfl, rfl⟩ := trodVars_none hV
  have hsame : ∀ x ∈ p, W.sameAt W' x := fun x hx => hb.same (hlt x (List.mem_append_left _ hx))
  have hres : ∀ (b : Nat) (sp : Nat → Bool) (hd : Bool), DataW.TrodAll enc P W' b sp hd f.resultTypes.toList ((Value.bool true).resultList f.resultTypes.size) (s.fn H (ds ++ [])).results [] := by
    intro b sp hd
    rw [hb1, hs.1]
    exact trodAll_mk1 (shut_bool hb2 true)
  have hargs : ∀ sp : Nat → Bool, (∀ x ∈ p ++ [], sp x.block = true) → DataW.TrodAll enc P W' 0 sp true f.params.toList args.toList (s.fn H (ds ++ [])).args p := by
    intro sp hsp
    rw [hs.2.1]
    exact trodAll_stays hl hT hA hsame (fun x hx => hsp x (List.mem_append_left _ hx))
  have hold : ∀ x ∈ p ++ [], (fun b => decide (b < W.heap.size)) x.block = true := fun x hx => by simpa using hlt x hx
  have hvs : ∀ sp : Nat → Bool, DataW.TrodVars enc P W' sp s.vars (s.fn H (ds ++ [])).vars [] := by
    intro sp
    rw [hv, hs.2.2]
    simp [DataW.TrodVars]
  refine ⟨ds, [], p ++ [], [], p, [], hW0, hres _ _ _, hargs _ hold, hvs _, World.keptBut_mono (fun x hx => ⟨hx, ?_⟩) (hb.frame (· ∈ p ++ [])), fun _ => ?_⟩
  · rw [List.mem_append] at hx
    exact Or.inr hx
  · refine ⟨ok_one hb1 rfl (okWide_bool_mk hb2 true), _, _, ([] ++ p) ++ [], ⟨[] ++ p, [], trodAll_append (hargs _ (fun _ _ => rfl)) (hres _ _ _), hvs _, rfl, ?_, ?_⟩, ?_⟩
    · intro b off hp
      have hin : MemPlace.cell b off ∈ p ++ [] := by simpa using hp
      rw [hb.frozen (hlt _ hin)]
      exact hz b off hin
    · intro ha; cases ha
    · intro x hx _
      simpa using hx

theorem spot_none {w : World} {a : Addr} {v : Value} (h : w.cell? a = some v) : a = ⟨a.block, a.off, none⟩ := by
  obtain ⟨b, o, s⟩ := a
  cases s with
  | none => rfl
  | some s => simp [World.cell?] at h; split at h <;> simp at h

theorem Tryd.cellsIn : Tryd.prog.cellsOf 3 = 1 := by kernel_rfl
theorem open_nums {H : Type} {enc : TypeId × Value → H} {W : World} {base : Nat} {spare : Nat → Bool} {held : Bool} {fuel len cap : Nat} {a1 : Option Addr} {y : DataW H × List MemPlace}
    (hf : DataW.trod enc Tryd.prog W base spare held fuel 22 (Value.slice a1 len cap).cells.toList = some y) : ∃ zs : List Int, len = zs.length ∧ len ≤ 9223372036854775807 ∧ Rep (fun _ => False) W mt (.slice a1 len cap) (.isl (zs.map fun z => AV.base (.int .i64 z)) len) := by
  rcases open_ints Tryd.underlying22 Tryd.underlying3 Tryd.cellsIn hf with ⟨hcs, hx⟩ | ⟨a, len', cap', zs, hcs, _, hl, hm, hz, hx, hcell, hwz⟩
  · simp [Value.cells] at hcs
    obtain ⟨rfl, rfl, rfl⟩ := hcs
    exact ⟨[], rfl, by omega, .isl0 _ _⟩
  · simp [Value.cells] at hcs
    obtain ⟨rfl, rfl, rfl⟩ := hcs
    have hlen : len ≤ zs.length := by rw [hz]; split <;> omega
    have e : (zs.take len).length = len := by simp [hlen]
    have hR := Rep.of_cells (_B := 0) (w := W) (φ := mt) (off := a.off) (A := some a) (len := len) (cap := cap) (xs := (zs.take len).map (Value.int .i64)) hl (fun hn => ?_) (fun h => by simp [h]) (fun h => by cases zs with
      | nil => simp at hlen; omega
      | cons z zs => cases len with
        | zero => omega
        | succ n => simp) (fun u hu => by obtain ⟨z, _, rfl⟩ := List.mem_map.1 hu; rfl)
    · refine ⟨zs.take len, e.symm, by unfold maxLen at hm; omega, ?_⟩
      rw [List.map_map] at hR
      exact hR
    · have h0 := hcell 0 (by omega)
      rw [show a.add 0 = a from by simp [Addr.add]] at h0
      have hs := spot_none h0
      refine ⟨a.block, by rw [← hs], fun j u hu => ?_⟩
      simp only [List.getElem?_map, List.getElem?_take] at hu
      split at hu
      · rename_i hj
        have hj2 : j < zs.length := by omega
        have h1 := hcell j hj2
        rw [List.getElem?_eq_getElem hj2] at hu
        simp only [Option.map_some, Option.some.injEq] at hu
        subst hu
        rw [show a.add j = ⟨a.block, a.off + j, none⟩ from by rw [hs]; simp [Addr.add]] at h1
        rw [h1]
        simp [hj2]
      · simp at hu
end Go.Proofs.YtcidmiacfjdepaaDoor
