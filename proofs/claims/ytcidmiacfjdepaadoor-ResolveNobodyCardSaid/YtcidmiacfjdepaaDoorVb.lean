/-
  ResolveNobody: its law.
-/
import Derived.Test.YtcidmiacfjdepaaDoorVa
import Derived.Test.YtcidmiacfjdepaaDoorMab
namespace Go.Proofs.YtcidmiacfjdepaaDoor
open Go.RowKit

theorem bound_none {ps : List Prt} {bs : List Bd} (hp : List.Perm bs (bdsOf ps)) {a : Ad} (h : ∀ p, p ∈ ps → a ∉ adsP p) : boundF bs a = none := by
  cases hb : boundF bs a with
  | none => rfl
  | some b =>
    obtain ⟨h1, h2⟩ := boundF_mem hb
    obtain ⟨p, h3, h4⟩ := List.mem_flatMap.1 (hp.mem_iff.1 h1)
    obtain ⟨c, h5, rfl⟩ := List.mem_map.1 h4
    dsimp only at h2
    subst h2
    exact absurd h5 (h p h3)
theorem where_none : ∀ {rs : List Rl} {m : List Int}, (∀ r, r ∈ rs → m ∉ r.macs) → whereF rs m = none := by
  intro rs
  induction rs with
  | nil => intro m _; rfl
  | cons r rs ih =>
    intro m h
    show (if m ∈ r.macs then some r else whereF rs m) = none
    rw [if_neg (h r (by simp))]
    exact ih fun x hx => h x (by simp [hx])
theorem andNot_even : ∀ x : Fin 256, (bitV .and .u8 (bitV .andNot .u8 (x.val : Int) 1) 1 == 1) = false := by decide +kernel
theorem even_grp {x : Int} (h : 0 ≤ x ∧ x ≤ 255) (r : List Int) : grpE (bitV .andNot .u8 x 1 :: r) = false := by
  have := andNot_even ⟨x.toNat, by omega⟩
  have e : ((x.toNat : Nat) : Int) = x := by omega
  dsimp only at this
  rw [e] at this
  exact this
theorem dlv_none {rs : List Rl} {bs : List Bd} {fm : Int} {f : Fr} (h : (tgtF rs bs f).2.2 = false) : dlvF rs bs fm f = (0, zFr, 13) := by
  unfold dlvF
  rw [if_pos (.inl h)]
theorem DbFine.noad {l : List Int} {d : Db} (h : DbFine l d) {q : Int} (hq : 0 ≤ q ∧ q < 100) : ∀ p, p ∈ allP d → (⟨false, 0, 3221225984 + (100 + q)⟩ : Ad) ∉ adsP p := fun p hp ha => by
  obtain ⟨i, hi, rfl⟩ := List.getElem_of_mem hp
  have hl := h.len
  rcases (h.good i hi).ad _ ha with e | e
  · have := congrArg Ad.lo e
    unfold fourA at this
    dsimp only at this
    omega
  · have := congrArg Ad.v6 e
    cases this
theorem DbFine.nomac {l : List Int} {d : Db} (h : DbFine l d) (g : Int → Int) {a b c e f : Int} : ∀ r, r ∈ (allP d).map (ruleOf g 2 3) → [a, 77, b, c, e, f] ∉ r.macs := fun r hr hm => by
  obtain ⟨p, hp, rfl⟩ := List.mem_map.1 hr
  obtain ⟨i, hi, rfl⟩ := List.getElem_of_mem hp
  have hl := h.len
  rcases (h.good i hi).mac (by omega) (by omega) _ hm with e | e <;> simp at e
set_option maxHeartbeats 8000000 in
theorem nobody_law (l : List Int) (n : Int) (m : List Int) (hm6 : m.length = 6) (hmB : IsB m) (hl : l.length ≤ 9223372036854775807) : AFn Tryd.prog 4 0 [.isl (l.map fun z => .base (.int .i64 z)) l.length, .base (.int .i64 n), .agg (bytesC m)] mt (.base (.bool true)) mt := by
  refine AFn.eq Tryd.func4 rfl rfl (Nat.le_of_ble_eq_true rfl) ?_
  have hawk := awake_any
  obtain ⟨_, _, hset, d, g, bs, j, f, hj, ⟨hfine, hperm, hmo, hfx⟩, rfl, rfl⟩ := setting_any l hl
  have hm1 := mod_any n 100 (by decide) (by decide)
  have hq0 : 0 ≤ n % 100 ∧ n % 100 < 100 := by omega
  generalize n % 100 = q at *
  have htab := hfine.tables g 2 3 hperm hmo
  have hlen := hfine.len
  have hno := hfine.noad hq0
  obtain ⟨m60, ml0, ml0', mo0, _⟩ := hfine.prt hj
  have hb0 := (macOf_mem (hfine.good j hj) (by omega) (by omega)).2.2
  have hbn := bound_none hperm hno
  have h4 : V4Ok ⟨false, 0, 3221225984 + (100 + q)⟩ := by
    unfold V4Ok ip4 validA U64
    simp
    omega
  obtain ⟨x0, x1, x2, x3, x4, x5, rfl⟩ := six_of hm6
  have hnm := where_none (hfine.nomac g (a := bitV .andNot .u8 x0 1) (b := x2) (c := x3) (e := x4) (f := x5))
  have hx0 : 0 ≤ x0 ∧ x0 ≤ 255 := hmB x0 (by simp)
  have p6 := hfx.ok.d6
  have q6 := hfx.ok.s6
  obtain ⟨fd, fs, fv, ft, fx⟩ := f
  dsimp only at p6 q6
  obtain ⟨p0, p1, p2, p3, p4, p5, rfl⟩ := six_of p6
  obtain ⟨q0, q1, q2, q3, q4, q5, rfl⟩ := six_of q6
  clear hfx
  generalize (allP d)[j] = P at *
  generalize (allP d).map (ruleOf g 2 3) = rs at *
  have tP := macs0_tk (p := P) rfl m60 ml0
  have hask := asks_req (m := macOf P) (a := reqA (macOf P) ⟨false, 0, 3221225984 + (100 + q)⟩ ⟨false, 0, 3221225984 + (100 + q)⟩) mo0 rfl (.inl rfl) (reqA_ok h4.1 h4.1) h4.2 h4.2
  have hd1 : dlvF rs bs P.id (reqF (macOf P) (reqA (macOf P) ⟨false, 0, 3221225984 + (100 + q)⟩ ⟨false, 0, 3221225984 + (100 + q)⟩)) = (0, zFr, 13) := dlv_none (by
    unfold tgtF
    rw [if_pos (show grpE (reqF (macOf P) (reqA (macOf P) ⟨false, 0, 3221225984 + (100 + q)⟩ ⟨false, 0, 3221225984 + (100 + q)⟩)).dst = true from grp_bc), hask]
    unfold boundP
    dsimp only [reqA]
    rw [hbn]
    rfl)
  have hreq := request_any (macOf P) ⟨false, 0, 3221225984 + (100 + q)⟩ ⟨false, 0, 3221225984 + (100 + q)⟩ mo0
  have henc := encReq mo0 h4.1 h4.1 h4.2 h4.2
  have hdel := deliver_any rs bs P.id _ htab (reqF_ok mo0 hb0 (ip4_v6 h4.1) (ip4_v6 h4.1))
  have hBB : IsB (arpB (reqA (macOf P) ⟨false, 0, 3221225984 + (100 + q)⟩ ⟨false, 0, 3221225984 + (100 + q)⟩)) := (reqF_ok (s := ⟨false, 0, 3221225984 + (100 + q)⟩) (d := ⟨false, 0, 3221225984 + (100 + q)⟩) mo0 hb0 rfl rfl).bB
  have hBl := arpB_len (a := reqA (macOf P) ⟨false, 0, 3221225984 + (100 + q)⟩ ⟨false, 0, 3221225984 + (100 + q)⟩) mo0 rfl rfl rfl
  rw [hd1] at hdel
  unfold reqF at hdel
  generalize arpB (reqA (macOf P) ⟨false, 0, 3221225984 + (100 + q)⟩ ⟨false, 0, 3221225984 + (100 + q)⟩) = B at *
  generalize macOf P = mp at *
  obtain ⟨y0, y1, y2, y3, y4, y5, rfl⟩ := six_of mo0
  have hdel : AFn Tryd.prog 14 0 [.isl (rulesC rs) rs.length, .isl (bdsC bs) bs.length, .base (.int .i64 P.id), .agg (bytesC bcM ++ bytesC [y0, y1, y2, y3, y4, y5] ++ [.base (.int .i64 0), .base (.int .i64 2054), .isl (bytesC B) B.length])] mt (.tup [.base (.int .i64 0), .agg (frC zFr), .base (.int .i64 13)]) mt := hdel
  obtain ⟨z0, hz0⟩ : ∃ z0, bitV .andNot .u8 x0 1 = z0 := ⟨_, rfl⟩
  have hgz : grpE [z0, 77, x2, x3, x4, x5] = false := by rw [← hz0]; exact even_grp hx0 _
  rw [hz0] at hnm
  have hdel2 := deliver_any rs bs P.id ⟨[z0, 77, x2, x3, x4, x5], [y0, y1, y2, y3, y4, y5], 0, 2048, B⟩ htab ⟨rfl, rfl, hBB, by dsimp only; omega⟩
  rw [dlv_none (by
    unfold tgtF
    rw [if_neg (by rw [hgz]; decide)]
    unfold whereP
    dsimp only
    rw [hnm])] at hdel2
  have hdel2 : AFn Tryd.prog 14 0 [.isl (rulesC rs) rs.length, .isl (bdsC bs) bs.length, .base (.int .i64 P.id), .agg (bytesC [z0, 77, x2, x3, x4, x5] ++ bytesC [y0, y1, y2, y3, y4, y5] ++ [.base (.int .i64 0), .base (.int .i64 2048), .isl (bytesC B) B.length])] mt (.tup [.base (.int .i64 0), .agg (frC zFr), .base (.int .i64 13)]) mt := hdel2
  have hsame := same_zero
  clear hd1 hask hbn hno hnm hgz hfine hperm
  refine Wq (Wr 0 2 (by decide) rfl rfl (Od rfl rfl (Bx rfl rfl rfl) (Od rfl rfl (As rfl rfl) (Nl (Wq (Wr 6 19 (by decide) rfl rfl (Od rfl rfl (Mv rfl rfl) (Od rfl rfl (C0 (fr := []) rfl rfl (hset) fok16 (.cons rfl (.pure rfl) .nil) rfl) (Od rfl rfl (Mv rfl rfl) (Od rfl rfl (Ex rfl rfl rfl) (Od rfl rfl (Ex rfl rfl rfl) (Od rfl rfl (Ex rfl rfl rfl) (Od rfl rfl (Ex rfl rfl rfl) (Od rfl rfl (Al rfl ty43) (Od rfl rfl (Al rfl ty55) (Od rfl rfl (As rfl rfl) (Od rfl rfl (As rfl rfl) (On rfl rfl (Sr rfl rfl rfl rfl rfl ty43 rfl (by decide) (Sp.lit rfl)) (On rfl rfl (Sr rfl rfl rfl rfl rfl ty55 rfl (by decide) (Sp.lit rfl)) (Nl (Wq (Wr 23 31 (by decide) rfl rfl (Od rfl rfl (Mv rfl rfl) (Od rfl rfl (C0 (fr := []) rfl rfl (hm1) fok10 (.cons rfl (.pure rfl) (.cons rfl (.pure rfl) .nil)) rfl) (Od rfl rfl (Ad0 rfl rfl rfl (by (first | exact IntWalk.i64_in _ (by omega) | assumption))) (Od rfl rfl (Ci rfl rfl ty3 ty23 (by (first | exact IntWalk.u64_in _ (by omega) | assumption))) (Od rfl rfl (Ad0 rfl rfl rfl (by (first | exact IntWalk.u64_in _ (by omega) | assumption))) (Od rfl rfl (Bs rfl ty25 (.cons rfl rfl rfl rfl (Sp.lit rfl) .nil)) (Od rfl rfl (Al rfl ty25) (On rfl rfl (Sr rfl rfl rfl rfl rfl ty25 rfl (by decide) (Sp.lit rfl)) (Nl ?_)))))))))))))))))))))))))))))))
  unfold ruleOf
  refine Wq (Wd 35 48 (by decide) rfl mixed rfl (Od rfl rfl (Fa rfl rfl ty43 rfl (by decide)) (Od rfl rfl (Ld rfl rfl rfl rfl ty40 rfl) (Od rfl rfl (Ii rfl rfl rfl rfl rfl ty40 ty50 (by first|omega|decide|assumption|(simp;done)|(simp;omega))) (Od rfl rfl (Lg rfl rfl ty50 rfl tP) (Od rfl rfl (La rfl rfl rfl ty25 rfl (Tk.lit rfl)) (Od rfl rfl (La rfl rfl rfl ty25 rfl (Tk.lit rfl)) (Od rfl rfl (C0 (fr := []) rfl rfl (hreq) fok13 (.cons rfl (.pure rfl) (.cons rfl (.pure rfl) (.cons rfl (.pure rfl) .nil))) rfl) (Od rfl rfl (C0 (fr := []) rfl rfl (henc) fok12 (.cons rfl (.pure rfl) .nil) rfl) (Od rfl rfl (Mv rfl rfl) (Od rfl rfl (Ex rfl rfl rfl) (Od rfl rfl (Ex rfl rfl rfl) (Od rfl rfl (As rfl rfl) (Od rfl rfl (As rfl rfl) (Nl ⟨by kernel_rfl, (Wq (Wd 52 72 (by decide) rfl mixed rfl (Od rfl rfl (Mv rfl rfl) (Od rfl rfl (Mv rfl rfl) (Od rfl rfl (Fa rfl rfl ty43 rfl (by decide)) (Od rfl rfl (Ld rfl rfl rfl rfl ty3 rfl) (Od rfl rfl (C0 (fr := []) rfl rfl (bcX_any) fok15 .nil rfl) (Od rfl rfl (Fa rfl rfl ty43 rfl (by decide)) (Od rfl rfl (Ld rfl rfl rfl rfl ty40 rfl) (Od rfl rfl (Ii rfl rfl rfl rfl rfl ty40 ty50 (by first|omega|decide|assumption|(simp;done)|(simp;omega))) (Od rfl rfl (Lg rfl rfl ty50 rfl tP) (Od rfl rfl (Mv rfl rfl) (Od rfl rfl (Bs rfl ty55 (.cons rfl rfl rfl rfl (Sp.lit rfl) (.cons rfl rfl rfl rfl (Sp.lit rfl) (.cons rfl rfl rfl rfl (Sp.lit rfl) (.cons rfl rfl rfl rfl (Sp.lit rfl) .nil))))) (Od rfl rfl (C0 (fr := []) rfl rfl (hdel) fok14 (.cons rfl (.pure rfl) (.cons rfl (.pure rfl) (.cons rfl (.pure rfl) (.cons rfl (.pure rfl) .nil)))) rfl) (Od rfl rfl (Mv rfl rfl) (Od rfl rfl (Ex rfl rfl rfl) (Od rfl rfl (Ex rfl rfl rfl) (Od rfl rfl (Ex rfl rfl rfl) (Od rfl rfl (Al rfl ty55) (Od rfl rfl (As rfl rfl) (On rfl rfl (Sr rfl rfl rfl rfl rfl ty55 rfl (by decide) (Sp.lit rfl)) (Od rfl rfl (As rfl rfl) (Nl ⟨by kernel_rfl, (Wq (Wr 76 83 (by decide) rfl rfl (Od rfl rfl (Ir rfl rfl rfl rfl ty50 ty5 (by first|omega|decide|assumption|(simp;done)|(simp;omega))) (Od rfl rfl (Ld rfl rfl rfl rfl ty5 rfl) (Od rfl rfl (LO.andNot rfl rfl rfl) (Od rfl rfl (Ir rfl rfl rfl rfl ty50 ty5 (by first|omega|decide|assumption|(simp;done)|(simp;omega))) (On rfl rfl (Sr rfl rfl rfl rfl rfl ty5 rfl (by decide) (Sp.lit rfl)) (Od rfl rfl (Ir rfl rfl rfl rfl ty50 ty5 (by first|omega|decide|assumption|(simp;done)|(simp;omega))) (On rfl rfl (Sr rfl rfl rfl rfl rfl ty5 rfl (by decide) (Sp.lit rfl)) (Nl ?_))))))))))⟩)))))))))))))))))))))))⟩)))))))))))))))
  rw [hz0]
  refine Wq (Wd 87 107 (by decide) rfl mixed rfl (Od rfl rfl (Mv rfl rfl) (Od rfl rfl (Mv rfl rfl) (Od rfl rfl (Fa rfl rfl ty43 rfl (by decide)) (Od rfl rfl (Ld rfl rfl rfl rfl ty3 rfl) (Od rfl rfl (La rfl rfl rfl ty50 rfl (Tk.lit rfl)) (Od rfl rfl (Fa rfl rfl ty43 rfl (by decide)) (Od rfl rfl (Ld rfl rfl rfl rfl ty40 rfl) (Od rfl rfl (Ii rfl rfl rfl rfl rfl ty40 ty50 (by first|omega|decide|assumption|(simp;done)|(simp;omega))) (Od rfl rfl (Lg rfl rfl ty50 rfl tP) (Od rfl rfl (Mv rfl rfl) (Od rfl rfl (Bs rfl ty55 (.cons rfl rfl rfl rfl (Sp.lit rfl) (.cons rfl rfl rfl rfl (Sp.lit rfl) (.cons rfl rfl rfl rfl (Sp.lit rfl) (.cons rfl rfl rfl rfl (Sp.lit rfl) .nil))))) (Od rfl rfl (C0 (fr := []) rfl rfl (hdel2) fok14 (.cons rfl (.pure rfl) (.cons rfl (.pure rfl) (.cons rfl (.pure rfl) (.cons rfl (.pure rfl) .nil)))) rfl) (Od rfl rfl (Mv rfl rfl) (Od rfl rfl (Ex rfl rfl rfl) (Od rfl rfl (Ex rfl rfl rfl) (Od rfl rfl (Ex rfl rfl rfl) (Od rfl rfl (Al rfl ty55) (Od rfl rfl (As rfl rfl) (On rfl rfl (Sr rfl rfl rfl rfl rfl ty55 rfl (by decide) (Sp.lit rfl)) (Od rfl rfl (As rfl rfl) (Nl ⟨by kernel_rfl, (Wq (Wr 111 143 (by decide) rfl rfl (Od rfl rfl (Mv rfl rfl) (Od rfl rfl (Eq0 rfl rfl rfl) (Od rfl rfl (Mv rfl rfl) (Gd rfl rfl rfl (by first|rfl|assumption) rfl (Mv rfl rfl) (Gd rfl rfl rfl (by first|rfl|assumption) rfl (Eq0 rfl rfl rfl) (Od rfl rfl (Pt rfl rfl (by first|rfl|assumption) rfl) (Od rfl rfl (Mv rfl rfl) (Gd rfl rfl rfl (by first|rfl|assumption) rfl (Mv rfl rfl) (Gd rfl rfl rfl (by first|rfl|assumption) rfl (Eq0 rfl rfl rfl) (Od rfl rfl (Pt rfl rfl (by first|rfl|assumption) rfl) (Od rfl rfl (Mv rfl rfl) (Gd rfl rfl rfl (by first|rfl|assumption) rfl (La rfl rfl rfl ty55 rfl (Tk.lit rfl)) (Gd rfl rfl rfl (by first|rfl|assumption) rfl (Bs rfl ty55 .nil) (Gd rfl rfl rfl (by first|rfl|assumption) rfl (C0 (fr := []) rfl rfl (hsame) fok17 (.cons rfl (.pure rfl) (.cons rfl (.pure rfl) .nil)) rfl) (Od rfl rfl (Pt rfl rfl (by first|rfl|assumption) rfl) (Od rfl rfl (Mv rfl rfl) (Gd rfl rfl rfl (by first|rfl|assumption) rfl (Mv rfl rfl) (Gd rfl rfl rfl (by first|rfl|assumption) rfl (Eq0 rfl rfl rfl) (Od rfl rfl (Pt rfl rfl (by first|rfl|assumption) rfl) (Od rfl rfl (Mv rfl rfl) (Gd rfl rfl rfl (by first|rfl|assumption) rfl (Mv rfl rfl) (Gd rfl rfl rfl (by first|rfl|assumption) rfl (Eq0 rfl rfl rfl) (Od rfl rfl (Pt rfl rfl (by first|rfl|assumption) rfl) (Od rfl rfl (Mv rfl rfl) (Gd rfl rfl rfl (by first|rfl|assumption) rfl (La rfl rfl rfl ty55 rfl (Tk.lit rfl)) (Gd rfl rfl rfl (by first|rfl|assumption) rfl (Bs rfl ty55 .nil) (Gd rfl rfl rfl (by first|rfl|assumption) rfl (C0 (fr := []) rfl rfl (hsame) fok17 (.cons rfl (.pure rfl) (.cons rfl (.pure rfl) .nil)) rfl) (Od rfl rfl (Pt rfl rfl (by first|rfl|assumption) rfl) (Od rfl rfl (Mv rfl rfl) (Gd rfl rfl rfl (by first|rfl|assumption) rfl (C0 (fr := []) rfl rfl (hawk) fok11 .nil rfl) (Od rfl rfl (Pt rfl rfl (by first|rfl|assumption) rfl) (Od rfl rfl (As rfl rfl) (Nl (W.ret ⟨.inl rfl, _, mt, RVs.cons (RV.tmp rfl) (RVs.nil), all_mt, ?_⟩))))))))))))))))))))))))))))))))))))⟩))))))))))))))))))))))
  exact ⟨rfl, rfl⟩
end Go.Proofs.YtcidmiacfjdepaaDoor
