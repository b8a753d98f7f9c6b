/-
  Requests and their bytes. Numbers from the list: a number of a range, an address.
-/
import Derived.Test.YtcidmiacfjdepaaDoorJq
import Derived.Test.YtcidmiacfjdepaaDoorMab
import Derived.Test.YtcidmiacfjdepaaDoorCz
import Derived.Test.YtcidmiacfjdepaaDoorLy
namespace Go.Proofs.YtcidmiacfjdepaaDoor
open Go.RowKit

def reqA (m : List Int) (s d : Ad) : Arp := ⟨1, m, s, [0, 0, 0, 0, 0, 0], d⟩
theorem request_any (m : List Int) (s d : Ad) (hm : m.length = 6) : AFn Tryd.prog 13 0 [.agg (bytesC m), .agg (adC s), .agg (adC d)] mt (.agg (arpC (reqA m s d))) mt := by
  refine AFn.eq Tryd.func13 rfl rfl (Nat.le_of_ble_eq_true rfl) ?_
  obtain ⟨m0, m1, m2, m3, m4, m5, rfl⟩ := six_of hm
  refine Wq (Wr 0 4 (by decide) rfl rfl (Od rfl rfl (Bx rfl rfl rfl) (Od rfl rfl (Bx rfl rfl rfl) (Od rfl rfl (Bx rfl rfl rfl) (Od rfl rfl (Al rfl ty52) (Nl (Wq (Wr 8 13 (by decide) rfl rfl (Od rfl rfl (La rfl rfl rfl ty50 rfl (Tk.lit rfl)) (Od rfl rfl (La rfl rfl rfl ty25 rfl (Tk.lit rfl)) (Od rfl rfl (La rfl rfl rfl ty25 rfl (Tk.lit rfl)) (Od rfl rfl (Bs rfl ty52 (.cons rfl rfl rfl rfl (Sp.lit rfl) (.cons rfl rfl rfl rfl (Sp.lit rfl) (.cons rfl rfl rfl rfl (Sp.lit rfl) (.cons rfl rfl rfl rfl (Sp.lit rfl) .nil))))) (On rfl rfl (Sr rfl rfl rfl rfl rfl ty52 rfl (by decide) (Sp.lit rfl)) (Nl ?_))))))))))))))
  refine W.ret ⟨.inl rfl, _, mt, (RVs.cons (RV.cellA rfl rfl ty52 rfl (Tk.lit rfl)) RVs.nil), (by (repeat' (first | exact all_mt | refine all_up ?_ ?_)) <;> rfl), ?_⟩
  exact ⟨rfl, rfl⟩
theorem arpX_yes (a : Arp) (h1 : a.fm.length = 6) (h2 : a.tm.length = 6) (hv : arpV a = true) : AFn Tryd.prog 29 0 [.agg (arpC a)] mt (.base (.bool true)) mt := by
  refine AFn.eq Tryd.func29 rfl rfl (Nat.le_of_ble_eq_true rfl) ?_
  have v1 := rvalid_any a.fr
  have v2 := rvalid_any a.tt
  obtain ⟨op, fm, ⟨f6, fh, fl⟩, tm, ⟨t6, th, tl⟩⟩ := a
  unfold arpV ip4 at hv
  simp only [Bool.and_eq_true, Bool.or_eq_true, Bool.not_eq_true'] at hv
  obtain ⟨hop, ⟨e1, e2⟩, e3, e4⟩ := hv
  dsimp only at h1 h2 v1 v2 e1 e2 e3 e4
  rw [e1] at v1
  rw [e3] at v2
  subst e2 e4
  obtain ⟨m0, m1, m2, m3, m4, m5, rfl⟩ := six_of h1
  obtain ⟨n0, n1, n2, n3, n4, n5, rfl⟩ := six_of h2
  refine Wq (Wr 0 2 (by decide) rfl rfl (Od rfl rfl (Bx rfl rfl rfl) (Od rfl rfl (As rfl rfl) (Nl ?_))))
  cases k1 : (op == 1)
  case' true =>
    refine Wq (Wr 6 37 (by decide) rfl rfl (Od rfl rfl (Fa rfl rfl ty52 rfl (by decide)) (Od rfl rfl (Ld rfl rfl rfl rfl ty3 rfl) (Od rfl rfl (Eq0 rfl rfl rfl) (Od rfl rfl (Mv rfl rfl) (Sd rfl rfl rfl (by first|rfl|assumption) rfl (Sd rfl rfl rfl (by first|rfl|assumption) rfl (Sd rfl rfl rfl (by first|rfl|assumption) rfl (Od rfl rfl (Pt rfl rfl (by first|rfl|assumption) rfl) (Od rfl rfl (Mv rfl rfl) (Gd rfl rfl rfl (by first|rfl|assumption) rfl (Fa rfl rfl ty52 rfl (by decide)) (Gd rfl rfl rfl (by first|rfl|assumption) rfl (La rfl rfl rfl ty25 rfl (Tk.lit rfl)) (Gd rfl rfl rfl (by first|rfl|assumption) rfl (C0 (fr := []) rfl rfl (v1) fok49 (.cons rfl (.pure rfl) .nil) rfl) (Od rfl rfl (Pt rfl rfl (by first|rfl|assumption) rfl) (Od rfl rfl (Mv rfl rfl) (Gd rfl rfl rfl (by first|rfl|assumption) rfl (Fa rfl rfl ty52 rfl (by decide)) (Gd rfl rfl rfl (by first|rfl|assumption) rfl (La rfl rfl rfl ty25 rfl (Tk.lit rfl)) (Gd rfl rfl rfl (by first|rfl|assumption) rfl (C0 (fr := []) rfl rfl (v2) fok49 (.cons rfl (.pure rfl) .nil) rfl) (Od rfl rfl (Pt rfl rfl (by first|rfl|assumption) rfl) (Od rfl rfl (Mv rfl rfl) (Gd rfl rfl rfl (by first|rfl|assumption) rfl (Fa rfl rfl ty52 rfl (by decide)) (Gd rfl rfl rfl (by first|rfl|assumption) rfl (Fa rfl rfl ty25 rfl (by decide)) (Gd rfl rfl rfl (by first|rfl|assumption) rfl (Ld rfl rfl rfl rfl ty4 rfl) (Gd rfl rfl rfl (by first|rfl|assumption) rfl (Nt rfl rfl) (Od rfl rfl (Pt rfl rfl (by first|rfl|assumption) rfl) (Od rfl rfl (Mv rfl rfl) (Gd rfl rfl rfl (by first|rfl|assumption) rfl (Fa rfl rfl ty52 rfl (by decide)) (Gd rfl rfl rfl (by first|rfl|assumption) rfl (Fa rfl rfl ty25 rfl (by decide)) (Gd rfl rfl rfl (by first|rfl|assumption) rfl (Ld rfl rfl rfl rfl ty4 rfl) (Gd rfl rfl rfl (by first|rfl|assumption) rfl (Nt rfl rfl) (Od rfl rfl (Pt rfl rfl (by first|rfl|assumption) rfl) (Od rfl rfl (As rfl rfl) (Nl (W.ret ⟨.inl rfl, _, mt, RVs.cons (RV.tmp rfl) (RVs.nil), all_mt, ?_⟩))))))))))))))))))))))))))))))))))
    exact ⟨rfl, rfl⟩
  case' false =>
    have k2 : (op == 2) = true := by rcases hop with h | h; · rw [h] at k1; cases k1
                                     · exact h
    refine Wq (Wr 6 37 (by decide) rfl rfl (Od rfl rfl (Fa rfl rfl ty52 rfl (by decide)) (Od rfl rfl (Ld rfl rfl rfl rfl ty3 rfl) (Od rfl rfl (Eq0 rfl rfl rfl) (Od rfl rfl (Mv rfl rfl) (Gd rfl rfl rfl (by first|rfl|assumption) rfl (Fa rfl rfl ty52 rfl (by decide)) (Gd rfl rfl rfl (by first|rfl|assumption) rfl (Ld rfl rfl rfl rfl ty3 rfl) (Gd rfl rfl rfl (by first|rfl|assumption) rfl (Eq0 rfl rfl rfl) (Od rfl rfl (Pf0 rfl rfl (by first|rfl|assumption) rfl) (Od rfl rfl (Mv rfl rfl) (Gd rfl rfl rfl (by first|rfl|assumption) rfl (Fa rfl rfl ty52 rfl (by decide)) (Gd rfl rfl rfl (by first|rfl|assumption) rfl (La rfl rfl rfl ty25 rfl (Tk.lit rfl)) (Gd rfl rfl rfl (by first|rfl|assumption) rfl (C0 (fr := []) rfl rfl (v1) fok49 (.cons rfl (.pure rfl) .nil) rfl) (Od rfl rfl (Pt rfl rfl (by first|rfl|assumption) rfl) (Od rfl rfl (Mv rfl rfl) (Gd rfl rfl rfl (by first|rfl|assumption) rfl (Fa rfl rfl ty52 rfl (by decide)) (Gd rfl rfl rfl (by first|rfl|assumption) rfl (La rfl rfl rfl ty25 rfl (Tk.lit rfl)) (Gd rfl rfl rfl (by first|rfl|assumption) rfl (C0 (fr := []) rfl rfl (v2) fok49 (.cons rfl (.pure rfl) .nil) rfl) (Od rfl rfl (Pt rfl rfl (by first|rfl|assumption) rfl) (Od rfl rfl (Mv rfl rfl) (Gd rfl rfl rfl (by first|rfl|assumption) rfl (Fa rfl rfl ty52 rfl (by decide)) (Gd rfl rfl rfl (by first|rfl|assumption) rfl (Fa rfl rfl ty25 rfl (by decide)) (Gd rfl rfl rfl (by first|rfl|assumption) rfl (Ld rfl rfl rfl rfl ty4 rfl) (Gd rfl rfl rfl (by first|rfl|assumption) rfl (Nt rfl rfl) (Od rfl rfl (Pt rfl rfl (by first|rfl|assumption) rfl) (Od rfl rfl (Mv rfl rfl) (Gd rfl rfl rfl (by first|rfl|assumption) rfl (Fa rfl rfl ty52 rfl (by decide)) (Gd rfl rfl rfl (by first|rfl|assumption) rfl (Fa rfl rfl ty25 rfl (by decide)) (Gd rfl rfl rfl (by first|rfl|assumption) rfl (Ld rfl rfl rfl rfl ty4 rfl) (Gd rfl rfl rfl (by first|rfl|assumption) rfl (Nt rfl rfl) (Od rfl rfl (Pt rfl rfl (by first|rfl|assumption) rfl) (Od rfl rfl (As rfl rfl) (Nl (W.ret ⟨.inl rfl, _, mt, RVs.cons (RV.tmp rfl) (RVs.nil), all_mt, ?_⟩))))))))))))))))))))))))))))))))))
    exact ⟨rfl, rfl⟩
def arpB (a : Arp) : List Int := [0, 1, 8, 0, 6, 4, 0, IntKind.u8.wrap a.op] ++ a.fm ++ addrL a.fr ++ a.tm ++ addrL a.tt
theorem arpB_len {a : Arp} (h1 : a.fm.length = 6) (h2 : a.tm.length = 6) (h3 : a.fr.v6 = false) (h4 : a.tt.v6 = false) : (arpB a).length = 28 := by
  unfold arpB
  simp [List.length_append, h1, h2, addrL_len, h3, h4]
set_option maxHeartbeats 2000000 in
theorem encO_any (a : Arp) (h1 : a.fm.length = 6) (h2 : a.tm.length = 6) (hv : arpV a = true) (u1 : U64 a.fr.hi ∧ U64 a.fr.lo) (u2 : U64 a.tt.hi ∧ U64 a.tt.lo) : AFn Tryd.prog 12 0 [.agg (arpC a)] mt (.tup [.osl 0 0 28 1, .base (.int .i64 0)]) (up mt 0 (some (bytesC (arpB a)))) := by
  refine AFn.eq Tryd.func12 rfl rfl (Nat.le_of_ble_eq_true rfl) ?_
  have hva := arpX_yes a h1 h2 hv
  unfold arpV ip4 at hv
  simp only [Bool.and_eq_true, Bool.or_eq_true, Bool.not_eq_true'] at hv
  obtain ⟨hop, ⟨e1, e2⟩, e3, e4⟩ := hv
  have b1 := bytesX_any a.fr e1 u1.1 u1.2
  have b2 := bytesX_any a.tt e3 u2.1 u2.2
  have l1 := addrL_len a.fr
  have l2 := addrL_len a.tt
  rw [e2] at l1
  rw [e4] at l2
  unfold arpB
  obtain ⟨op, fm, fr, tm, tt⟩ := a
  dsimp only at *
  generalize addrL fr = L1 at *
  generalize addrL tt = L2 at *
  have l1 : L1.length = 4 := l1
  have l2 : L2.length = 4 := l2
  obtain ⟨x0, x1, x2, x3, rfl⟩ : ∃ a b c d, L1 = [a, b, c, d] := by
    match L1, l1 with
    | [a, b, c, d], _ => exact ⟨_, _, _, _, rfl⟩
  obtain ⟨y0, y1, y2, y3, rfl⟩ : ∃ a b c d, L2 = [a, b, c, d] := by
    match L2, l2 with
    | [a, b, c, d], _ => exact ⟨_, _, _, _, rfl⟩
  obtain ⟨m0, m1, m2, m3, m4, m5, rfl⟩ := six_of h1
  obtain ⟨n0, n1, n2, n3, n4, n5, rfl⟩ := six_of h2
  refine Wq (Wr 0 3 (by decide) rfl rfl (Od rfl rfl (Bx rfl rfl rfl) (Od rfl rfl (As rfl rfl) (Od rfl rfl (As rfl rfl) (Nl (Wq (Wq (Wr 7 10 (by decide) rfl rfl (Od rfl rfl (La rfl rfl rfl ty52 rfl (Tk.lit rfl)) (Od rfl rfl (C0 (fr := []) rfl rfl (hva) fok29 (.cons rfl (.pure rfl) .nil) rfl) (Od rfl rfl (Nt rfl rfl) (Nl (Wf rfl (by first|rfl|assumption) (Wk (W.frzo (t := 1) rfl rfl rfl (Wq (Wd 20 28 (by decide) rfl mixed rfl (Od rfl rfl (Fi rfl rfl ty52 rfl (by decide)) (Od rfl rfl (Li rfl rfl rfl ty3 rfl) (Od rfl rfl (LO.conv rfl rfl ty3 ty5) (Od rfl rfl (LO.buildSlice rfl ty46 ty5 (by decide) (by decide) (.cons rfl rfl rfl rfl (Sp.lit rfl) (.cons rfl rfl rfl rfl (Sp.lit rfl) (.cons rfl rfl rfl rfl (Sp.lit rfl) (.cons rfl rfl rfl rfl (Sp.lit rfl) (.cons rfl rfl rfl rfl (Sp.lit rfl) (.cons rfl rfl rfl rfl (Sp.lit rfl) (.cons rfl rfl rfl rfl (Sp.lit rfl) (.cons rfl rfl rfl rfl (Sp.lit rfl) .nil))))))))) (Od rfl rfl (Fi rfl rfl ty52 rfl (by decide)) (Od rfl rfl (LO.slice_imm rfl rfl ty50 ty5 (Tk.lit rfl) (by decide)) (Od rfl rfl (LO.append rfl rfl (SrcAV.isl rfl rfl (by first|rfl|assumption)) rfl (Tk.lit rfl) ty46 ty46 ty5 (by decide) (by first|omega|decide|assumption|(simp;done)|(simp;omega)) (by first|omega|decide|assumption|(simp;done)|(simp;omega)) (by first | decide | omega)) (Od rfl rfl (As rfl rfl) (Nl ⟨by kernel_rfl, (Wq (Wd 32 41 (by decide) rfl mixed rfl (Od rfl rfl (Mv rfl rfl) (Od rfl rfl (Fi rfl rfl ty52 rfl (by decide)) (Od rfl rfl (Lg rfl rfl ty25 rfl (Tk.lit rfl)) (Od rfl rfl (LO.callO (fr := []) rfl rfl (b1) fok30 (.cons rfl (.pure rfl) .nil) rfl (by decide)) (Od rfl rfl (LO.append rfl rfl (SrcAV.own rfl rfl (Tk.lit rfl)) rfl (Tk.lit rfl) ty46 ty46 ty5 (by decide) (by first|omega|decide|assumption|(simp;done)|(simp;omega)) (by first|omega|decide|assumption|(simp;done)|(simp;omega)) (by first | decide | omega)) (Od rfl rfl (Fi rfl rfl ty52 rfl (by decide)) (Od rfl rfl (LO.slice_imm rfl rfl ty50 ty5 (Tk.lit rfl) (by decide)) (Od rfl rfl (LO.append rfl rfl (SrcAV.isl rfl rfl (by first|rfl|assumption)) rfl (Tk.lit rfl) ty46 ty46 ty5 (by decide) (by first|omega|decide|assumption|(simp;done)|(simp;omega)) (by first|omega|decide|assumption|(simp;done)|(simp;omega)) (by first | decide | omega)) (Od rfl rfl (As rfl rfl) (Nl ⟨by kernel_rfl, (Wq (Wr 45 52 (by decide) rfl rfl (Od rfl rfl (Mv rfl rfl) (Od rfl rfl (Fi rfl rfl ty52 rfl (by decide)) (Od rfl rfl (Lg rfl rfl ty25 rfl (Tk.lit rfl)) (Od rfl rfl (LO.callO (fr := []) rfl rfl (b2) fok30 (.cons rfl (.pure rfl) .nil) rfl (by decide)) (Od rfl rfl (LO.append rfl rfl (SrcAV.own rfl rfl (Tk.lit rfl)) rfl (Tk.lit rfl) ty46 ty46 ty5 (by decide) (by first|omega|decide|assumption|(simp;done)|(simp;omega)) (by first|omega|decide|assumption|(simp;done)|(simp;omega)) (by first | decide | omega)) (Od rfl rfl (As rfl rfl) (Od rfl rfl (As rfl rfl) (Nl (W.rename [(0, 49)] 1 (T' := up (up mt 3 (some (.base (.int .i64 0)))) 2 (some (.osl 0 0 28 1))) (H' := up mt 0 (some (bytesC ([0, 1, 8, 0, 6, 4, 0, IntKind.u8.wrap op] ++ [m0, m1, m2, m3, m4, m5] ++ [x0, x1, x2, x3] ++ [n0, n1, n2, n3, n4, n5] ++ [y0, y1, y2, y3])))) (by decide) ?_ ?_ ?_)))))))))))⟩))))))))))))⟩))))))))))))))))))))))))))
  · (repeat' (first | exact all_mt | refine all_up ?_ ?_)) <;> first | exact .inl ⟨rfl, rfl⟩ | exact .inr ⟨rfl, fun _ h => by cases h⟩ | exact .inl ⟨rfl, by first | rfl | assumption ⟩
  · (repeat' (first | exact all_mt | refine all_up ?_ ?_)) <;> first | exact ⟨rfl, _, rfl, .inr ⟨rfl, rfl⟩⟩ | exact ⟨rfl, _, rfl, .inl rfl⟩ | exact ⟨rfl, _, rfl, .inr ⟨rfl, by first | rfl | assumption ⟩⟩
  refine W.ret ⟨.inl rfl, _, up mt 0 (some (bytesC ([0, 1, 8, 0, 6, 4, 0, IntKind.u8.wrap op] ++ [m0, m1, m2, m3, m4, m5] ++ [x0, x1, x2, x3] ++ [n0, n1, n2, n3, n4, n5] ++ [y0, y1, y2, y3]))), RVs.cons (RV.tmp rfl) (RVs.cons (RV.tmp rfl) RVs.nil), all_up rfl all_mt, ?_⟩
  exact ⟨rfl, rfl⟩
theorem encA_any (a : Arp) (h1 : a.fm.length = 6) (h2 : a.tm.length = 6) (hv : arpV a = true) (u1 : U64 a.fr.hi ∧ U64 a.fr.lo) (u2 : U64 a.tt.hi ∧ U64 a.tt.lo) : AFn Tryd.prog 12 0 [.agg (arpC a)] mt (.tup [.isl (bytesC (arpB a)) 28, .base (.int .i64 0)]) mt := by
  refine AFn.frozenT (encO_any a h1 h2 hv u1 u2) (bytes_tk ?_) (bytesC_pure _)
  unfold arpV ip4 at hv
  simp only [Bool.and_eq_true, Bool.or_eq_true, Bool.not_eq_true'] at hv
  exact arpB_len h1 h2 hv.2.1.2 hv.2.2.2
end Go.Proofs.YtcidmiacfjdepaaDoor
namespace Go.Proofs.YtcidmiacfjdepaaDoor
open Go.RowKit
theorem nextV_bd (l : List Int) (at_ : Nat) (n : Int) (hn : 1 ≤ n) : 0 ≤ nextV l at_ n ∧ nextV l at_ n < n := by
  unfold nextV
  split
  · exact ⟨Int.emod_nonneg _ (by omega), Int.emod_lt_of_pos _ (by omega)⟩
  · omega
end Go.Proofs.YtcidmiacfjdepaaDoor
