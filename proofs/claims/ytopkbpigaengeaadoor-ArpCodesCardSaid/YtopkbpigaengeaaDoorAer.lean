/-
  A message, encoded by the document's answer: the walk.
-/
import Derived.Test.YtopkbpigaengeaaDoorSp
namespace Go.Proofs.YtopkbpigaengeaaDoor
open Go.RowKit

set_option maxHeartbeats 1000000 in
theorem renc_bad (m : Msg) (w : World) (hv : validM m = false) :
    Calls Tryd.prog 16 #[arpV m] w fun e w' => e = .returned (.tuple #[.slice none 0 0, .int .i64 1]) ∧ Ext w w' := by
  unfold arpV
  have HB : Hid (Blk (w.alloc (.cells (arpC m) 29)) w.heap.size 29 (arpC m)) := Lib.hid (Blk.new _ _ _)
  go_enter Tryd.func16, Tryd.ntmps16
  go_wp2_with (refine load_arp rfl (.tmp 1) rfl w.heap.size m rfl HB.out ?_)
  refine (rmvalid_any m _).mono ?_
  rintro e w' ⟨rfl, hE⟩
  rw [hv]
  go_wp2_with fail
  go_ret2
  exact ⟨rfl, ((Ext.refl w).alloc _).trans hE⟩

def head8 (m : Msg) : List Int := [0, 1, 8, 0, 6, 4, 0, m.op]
def headS (k : Nat) (m : Msg) : List OpSpec :=
  [isV (.pointer (some ⟨k, 0, none⟩)), isV (.int .i64 m.op), isV (.int .u8 m.op), rowV (head8 m), isV (.pointer (some ⟨k, 1, none⟩)), isV (.slice (some ⟨k, 1, none⟩) 6 6), eatV 3 (head8 m ++ macB m.fm)]

set_option maxRecDepth 100000 in
set_option maxHeartbeats 4000000 in
theorem renc_ok (m : Msg) (w : World) (hm : MsgOk m) :
    Calls Tryd.prog 16 #[arpV m] w fun e w' => ∃ v, e = .returned (.tuple #[v, .int .i64 0]) ∧ FDat w' v (encM m) ∧ Ext w w' := by
  have hv := validM_ok hm
  unfold arpV
  have hB0 : Blk (w.alloc (.cells (arpC m) 29)) w.heap.size 29 (arpC m) := Blk.new _ _ _
  have hE0 : Ext w (w.alloc (.cells (arpC m) 29)) := (Ext.refl w).alloc _
  have HB := Lib.hid hB0
  have HM := Lib.hid hm
  go_enter Tryd.func16, Tryd.ntmps16
  go_wp2_with (refine load_arp rfl (.tmp 1) rfl w.heap.size m rfl HB.out ?_)
  refine (rmvalid_any m _).mono ?_
  rintro e w1 ⟨rfl, hE⟩
  rw [hv]
  have hB1 := hB0.below hE hB0.lt
  have hE1 := hE0.trans hE
  have hl1 := hB1.lt
  have HOP : Hid (IntKind.u8.wrap m.op = m.op) := by
    show IntKind.u8.wrap m.op = m.op
    rw [IntKind.wrap_u8]
    rcases hm.1 with e | e <;> rw [e] <;> rfl
  clear hB0 hE0 hE hv HB
  go_wp2_with fail
  go_cut [4] (fun v4 wx => RowAt w1.heap.size wx v4 (head8 m ++ macB m.fm) ∧ Ext w1 wx)
  case first =>
    refine wp_region_rows (by kernel_rfl) 7 [8, 9, 10, 11, 12, 13, 14] rfl rfl (headS w.heap.size m) rfl 28 (by kernel_rfl) (by decide) (by kernel_rfl) (by kernel_rfl) (by kernel_rfl) rfl (by kernel_rfl) (by kernel_rfl) w1.heap.size (Nat.le_refl _) ?_ ?_
    · intro y wq hBq hb hA
      have r6 : RowAt w1.heap.size wq (y 6) (head8 m ++ macB m.fm) := hA.2.2.2.2.2.2.1.2 rfl
      simp only [List.map_cons, List.map_nil, fillL, Nat.zero_add, Nat.reduceAdd, Act.put, List.setIfInBounds_toArray, List.set_cons_succ, List.set_cons_zero, List.drop_succ_cons, List.drop_zero]
      clear hA
      go_wp2_with fail
      go_meet
      exact ⟨r6, hBq⟩
    · refine EachOp.cons ?_ (EachOp.cons ?_ (EachOp.cons ?_ (EachOp.cons ?_ (EachOp.cons ?_ (EachOp.cons ?_ (EachOp.cons ?_ EachOp.nil))))))
      all_goals (refine StepS.mk _ rfl fun r wq hBq hb hc hf ho hk K hK => ?_)
      · have g0 : r (.tmp 1) = .pointer (some ⟨w.heap.size, 0, none⟩) := ho 1 rfl
        unfold OpV; go_simp; exact hK _ _ post_is
      · have g0 : r (.tmp 8) = .pointer (some ⟨w.heap.size, 0, none⟩) := hk.1.1
        have c0 : wq.cell? ⟨w.heap.size, 0, none⟩ = some (.int .i64 m.op) := (hB1.below hBq hl1).cell 0
        unfold OpV; go_simp; exact hK _ _ post_is
      · have g0 : r (.tmp 9) = .int .i64 m.op := hk.1.1
        unfold OpV; go_simp; rw [HOP.out]; exact hK _ _ post_is
      · have g0 : r (.tmp 10) = .int .u8 m.op := hk.1.1
        unfold OpV; go_simp
        exact hK _ _ (post_row ((Below.refl _ _).alloc (Nat.le_refl _) _) (new_row_u8 wq (head8 m) 8 rfl (by omega)))
      · have g0 : r (.tmp 1) = .pointer (some ⟨w.heap.size, 0, none⟩) := ho 1 rfl
        unfold OpV; go_simp; exact hK _ _ post_is
      · have g0 : r (.tmp 12) = .pointer (some ⟨w.heap.size, 1, none⟩) := hk.1.1
        unfold OpV; go_simp; exact hK _ _ post_is
      · have hrow : RowAt w1.heap.size wq (r (.tmp 11)) (head8 m) := hk.1.2 rfl
        have h1 : r (.tmp 13) = .slice (some ⟨w.heap.size, 1, none⟩) 6 6 := hk.2.1.1
        exact opv_append (.tmp 11) (.tmp 13) rfl w1.heap.size _ (macB m.fm) hrow _ _ _ _ h1 (mac_reads (hB1.below hBq hl1)).1 (by simp [head8]) hb fun v' w' h1 h2 h3 => hK _ _ (post_eat (t := 11) rfl h2 h3 h1)
  case rest =>
    obtain ⟨h4, hx⟩ := hcut
    obtain ⟨-, ⟨-, hfm⟩, ⟨sv, sh, sl0, sl1⟩, -, ⟨dv, dh, dl0, dl1⟩⟩ : True ∧ (True ∧ MacOk m.fm) ∧ Ad4 m.sa ∧ MacOk m.tm ∧ Ad4 m.da := ⟨trivial, ⟨trivial, HM.out.2.1⟩, HM.out.2.2.1, HM.out.2.2.2.1, HM.out.2.2.2.2⟩
    have hB := hB1.below hx hl1
    have hlc := hB.lt
    obtain ⟨A4, c4, rfl, _⟩ := h4.reads 14 rfl
    have k7 : wc.cell? ⟨w.heap.size, 7, none⟩ = some (.bool false) := by rw [hB.cell 7]; show some (Value.bool m.sa.v6) = _; rw [sv]
    have k8 : wc.cell? ⟨w.heap.size, 8, none⟩ = some (.int .u64 0) := by rw [hB.cell 8]; show some (Value.int .u64 m.sa.hi) = _; rw [sh]
    have k9 : wc.cell? ⟨w.heap.size, 9, none⟩ = some (.int .u64 m.sa.lo) := hB.cell 9
    have k16 : wc.cell? ⟨w.heap.size, 16, none⟩ = some (.bool false) := by rw [hB.cell 16]; show some (Value.bool m.da.v6) = _; rw [dv]
    have k17 : wc.cell? ⟨w.heap.size, 17, none⟩ = some (.int .u64 0) := by rw [hB.cell 17]; show some (Value.int .u64 m.da.hi) = _; rw [dh]
    have k18 : wc.cell? ⟨w.heap.size, 18, none⟩ = some (.int .u64 m.da.lo) := hB.cell 18
    have vs : validA false 0 m.sa.lo = true := by unfold validA; simp [sl1]
    have vd : validA false 0 m.da.lo = true := by unfold validA; simp [dl1]
    have us : U64 m.sa.lo := by unfold U64; omega
    have ud : U64 m.da.lo := by unfold U64; omega
    have u0 : U64 0 := by unfold U64; omega
    have VS := Lib.hid vs
    have VD := Lib.hid vd
    have US := Lib.hid us
    have UD := Lib.hid ud
    have U0 := Lib.hid u0
    have h4d : wc.drew.ownsRow w1.heap.size 5 1 (.slice A4 14 c4) 14 (bytesV (head8 m ++ macB m.fm)) := h4
    have hsz : w1.heap.size ≤ wc.drew.heap.size := hx.size
    have hl0 : w.heap.size < wc.drew.heap.size := hlc
    have HB := Lib.hid hB
    have hmt : ∀ w', Below wc.drew.heap.size wc.drew w' → Reads w' w'.heap.size 1 (some ⟨w.heap.size, 10, none⟩) 6 (bytesV (macB m.tm)) := fun w' hb => (mac_reads (HB.out.drew.below hb hl0)).2
    have hc4 : ∀ (w2 w6 : World), Below wc.drew.heap.size wc.drew w2 → w2.grownBy w6 (Value.slice A4 14 c4).ownBlock → Reads w6 w2.heap.size 1 (some ⟨w.heap.size, 10, none⟩) 6 (bytesV (macB m.tm)) := by
      intro w2 w6 hb hg
      have h1 := (mac_reads (HB.out.drew.below hb hl0)).2
      have hl2 : w.heap.size < w2.heap.size := Nat.lt_of_lt_of_le hl0 hb.size
      have hBB := (HB.out.drew.below hb hl0).grown hg (fun e => by have := (World.ownsRow.lt h4d _ e.symm).1; omega)
      have h2 := (mac_reads hBB).2
      refine ⟨h2.1, fun hp => ?_⟩
      obtain ⟨b, off, e, _, hc⟩ := h2.2 hp
      injection e with e
      injection e with e1 e2
      subst e1 e2
      exact ⟨_, _, rfl, hl2, hc⟩
    have n18 : 14 + 4 ≤ 1000000000 := by omega
    have n24 : 14 + 4 + 6 ≤ 1000000000 := by omega
    have hne : some w.heap.size ≠ (Value.slice A4 14 c4).ownBlock := fun e => by have := (World.ownsRow.lt h4d _ e.symm).1; omega
    have HH4 := Lib.hid h4d
    clear vs vd us ud u0 hB h4 h4d sv sh dv dh sl0 sl1 dl0 dl1 hfm
    obtain ⟨wo, rfl⟩ : ∃ wo : World, wo = wc := ⟨_, rfl⟩
    go_wp2_with fail
    go_cut [4] (fun v4 wx => RowAt w1.heap.size wx v4 (head8 m ++ macB m.fm ++ adB m.sa ++ macB m.tm) ∧ Ext w1 wx)
    case first =>
      go_region_held3 (fun w' => w'.cell? ⟨w.heap.size, 7, none⟩ = some (.bool false) ∧ w'.cell? ⟨w.heap.size, 8, none⟩ = some (.int .u64 0) ∧ w'.cell? ⟨w.heap.size, 9, none⟩ = some (.int .u64 m.sa.lo)) (first | go_keep | assumption)
        (first
          | (go_at_call 26; refine (rbytes_four 0 m.sa.lo _ VS.out U0.out US.out).mono ?_; rintro e w2 ⟨v, rfl, hown, hb⟩; obtain ⟨A5, c5, e5⟩ := own_form hown; subst e5; have k7b := (Below.cell hb (p := ⟨w.heap.size, 7, none⟩) hl0).trans k7; have k8b := (Below.cell hb (p := ⟨w.heap.size, 8, none⟩) hl0).trans k8; have k9b := (Below.cell hb (p := ⟨w.heap.size, 9, none⟩) hl0).trans k9)
          | (refine step_u8 (by rfl) (.tmp 15) (.tmp 18) (by rfl) w1.heap.size (.slice A4 14 c4) 14 (head8 m ++ macB m.fm) (by rfl) (own_ext HH4.out hb) _ A5 4 c5 (adB m.sa) (by rfl) (Reads.of_own hown) n18 (Nat.le_trans hsz (Below.size hb)) ?_; intro v6 w6 hown6 hg6 hb6; have k7c := hg6.cell (a := ⟨w.heap.size, 7, none⟩) k7b hne; have k8c := hg6.cell (a := ⟨w.heap.size, 8, none⟩) k8b hne; have k9c := hg6.cell (a := ⟨w.heap.size, 9, none⟩) k9b hne)
          | (refine step_u8 (by rfl) (.tmp 19) (.tmp 21) (by rfl) w1.heap.size v6 (14 + 4) (head8 m ++ macB m.fm ++ adB m.sa) (by rfl) hown6 _ (some ⟨w.heap.size, 10, none⟩) 6 6 (macB m.tm) (by rfl) (hc4 _ _ hb hg6) n24 (Nat.le_trans (Nat.le_trans hsz (Below.size hb)) hg6.size) ?_; intro v7 w7 hown7 hg7 hb7; have hne6 : some w.heap.size ≠ v6.ownBlock := (fun e => Nat.lt_irrefl _ (Nat.lt_of_lt_of_le hl1 (World.ownsRow.lt hown6 _ e.symm).1)); have k7d := hg7.cell (a := ⟨w.heap.size, 7, none⟩) k7c hne6; have k8d := hg7.cell (a := ⟨w.heap.size, 8, none⟩) k8c hne6; have k9d := hg7.cell (a := ⟨w.heap.size, 9, none⟩) k9c hne6))
      all_goals
        have hE2 : Ext w1 w2 := Below.trans (b := wo.drew) (Ext.drew hx) (hb.mono hsz)
        have hE6 := Ext.grown hE2 hg6 (fun g e => (World.ownsRow.lt HH4.out g e).1)
        have hE7 := Ext.grown hE6 hg7 (fun g e => (World.ownsRow.lt hown6 g e).1)
        have el : (head8 m ++ macB m.fm ++ adB m.sa ++ macB m.tm).length = 14 + 4 + 6 := by simp [head8, macB, adB_len]
        rw [← el] at hown7
        go_wp2_with fail
        go_meet
        exact ⟨hown7, hE7⟩
    case rest =>
      obtain ⟨h5, hx5⟩ := hcut
      have hE5 := hE1.trans hx5
      have hsz5 := hx5.size
      have hB5 := hB1.below hx5 hl1
      have hl5 := hB5.lt
      have q16 : wc.cell? ⟨w.heap.size, 16, none⟩ = some (.bool false) := by have := hB5.cell 16; rw [HB.out.cell 16 |>.symm, k16] at this; exact this
      have q17 : wc.cell? ⟨w.heap.size, 17, none⟩ = some (.int .u64 0) := by have := hB5.cell 17; rw [HB.out.cell 17 |>.symm, k17] at this; exact this
      have q18 : wc.cell? ⟨w.heap.size, 18, none⟩ = some (.int .u64 m.da.lo) := hB5.cell 18
      have el : (head8 m ++ macB m.fm ++ adB m.sa ++ macB m.tm).length = 24 := by simp [head8, macB, adB_len]
      obtain ⟨A7, c7, rfl, _⟩ := h5.reads 24 el
      have h5o : wc.ownsRow w1.heap.size 5 1 (.slice A7 24 c7) 24 (bytesV (head8 m ++ macB m.fm ++ adB m.sa ++ macB m.tm)) := by
        have h5' := h5
        unfold RowAt at h5'
        rw [el] at h5'
        exact h5'
      have n28 : 24 + 4 ≤ 1000000000 := by omega
      obtain ⟨wp, rfl⟩ : ∃ wp : World, wp = wc := ⟨_, rfl⟩
      clear k7 k8 k9 k16 k17 k18 hmt hc4 hne hsz hl0 hx hlc h5 hB5 el
      go_wp2_with fail
      refine (rbytes_four 0 m.da.lo _ VD.out U0.out UD.out).mono ?_
      rintro e w8 ⟨v8, rfl, hown8, hb8⟩
      obtain ⟨A8, c8, e8⟩ := own_form hown8
      subst e8
      have h5b := own_ext h5o hb8
      have hr8 := Reads.of_own hown8
      have hE8 := hE5.trans hb8
      go_wp2_with (at_builtin; refine app_u8 rfl (.tmp 23) (.tmp 26) rfl w1.heap.size (.slice A7 24 c7) 24 (head8 m ++ macB m.fm ++ adB m.sa ++ macB m.tm) rfl h5b _ A8 4 c8 (adB m.da) rfl hr8 n28 (Nat.le_trans hsz5 hb8.size) ?_; intro v9 w9 hown9 hg9 hb9)
      go_ret2
      have el2 : (encM m).length = 24 + 4 := encM_len m
      have e2 : head8 m ++ macB m.fm ++ adB m.sa ++ macB m.tm ++ adB m.da = encM m := rfl
      rw [e2, ← el2] at hown9
      exact ⟨_, rfl, FDat.of_own hown9, Ext.grown hE8 hg9 (fun g e => Nat.le_trans hE1.size (World.ownsRow.lt h5b g e).1)⟩

end Go.Proofs.YtopkbpigaengeaaDoor
