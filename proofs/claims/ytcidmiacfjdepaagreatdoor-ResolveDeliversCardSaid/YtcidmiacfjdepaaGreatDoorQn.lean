/-
  Requests and their bytes. Numbers from the list: a number of a range, an address.
-/
import Derived.Test.YtcidmiacfjdepaaGreatDoorJq
import Derived.Test.YtcidmiacfjdepaaGreatDoorMab
import Derived.Test.YtcidmiacfjdepaaGreatDoorCz
import Derived.Test.YtcidmiacfjdepaaGreatDoorLy
namespace Go.Proofs.YtcidmiacfjdepaaGreatDoor
open Go.RowKit
def reqA (m:List Int) (s d:Ad):Arp:=⟨1,m,s,[0,0,0,0,0,0],d⟩
theorem request_any (m:List Int) (s d:Ad) (hm:m.length=6):AFn Tryz.prog 18 0 [.agg (bytesC m),.agg (adC s),.agg (adC d)] mt (.agg (arpC (reqA m s d))) mt:=by
  refine AFn.eq Tryz.func18 rfl rfl (Nat.le_of_ble_eq_true rfl) ?_
  obtain ⟨m0,m1,m2,m3,m4,m5,rfl⟩:=six_of hm
  refine Wq (qW 0 4 rfl rfl rfl (qC rfl rfl rfl (qC rfl rfl rfl (qC rfl rfl rfl (qB rfl ty64 (Nl (Wq (qW 8 13 rfl rfl rfl (qG rfl rfl rfl ty23 rfl (Tl rfl) (qG rfl rfl rfl ty42 rfl (Tl rfl) (qG rfl rfl rfl ty42 rfl (Tl rfl) (Od rfl rfl (Bs rfl ty64 (.cons rfl rfl rfl rfl (Sl rfl) (.cons rfl rfl rfl rfl (Sl rfl) (.cons rfl rfl rfl rfl (Sl rfl) (.cons rfl rfl rfl rfl (Sl rfl) .nil))))) (qS rfl rfl rfl rfl rfl ty64 rfl rfl (Sl rfl) (Nl ?_))))))))))))))
  refine W.ret ⟨.inl rfl,_,mt,(RVs.cons (RV.cellA rfl rfl ty64 rfl (Tk.lit rfl)) RVs.nil),(by (repeat' (first|exact all_mt|refine all_up ?_ ?_))<;>rfl),?_⟩
  exact ⟨rfl,rfl⟩
theorem arpX_yes (a:Arp) (h1:a.fm.length=6) (h2:a.tm.length=6) (hv:arpV a=true):AFn Tryz.prog 43 0 [.agg (arpC a)] mt (.base (.bool true)) mt:=by
  refine AFn.eq Tryz.func43 rfl rfl (Nat.le_of_ble_eq_true rfl) ?_
  have v1:=rvalid_any a.fr
  have v2:=rvalid_any a.tt
  obtain ⟨op,fm,⟨f6,fh,fl⟩,tm,⟨t6,th,tl⟩⟩:=a
  unfold arpV ip4 at hv
  simp only [Bool.and_eq_true,Bool.or_eq_true,Bool.not_eq_true'] at hv
  obtain ⟨hop,⟨e1,e2⟩,e3,e4⟩:=hv
  dsimp only at h1 h2 v1 v2 e1 e2 e3 e4
  rw [e1] at v1
  rw [e3] at v2
  subst e2 e4
  obtain ⟨m0,m1,m2,m3,m4,m5,rfl⟩:=six_of h1
  obtain ⟨n0,n1,n2,n3,n4,n5,rfl⟩:=six_of h2
  refine Wq (qW 0 2 rfl rfl rfl (qC rfl rfl rfl (qA rfl rfl (Nl ?_))))
  cases k1:(op == 1)
  case' true =>
    refine Wq (qW 6 37 rfl rfl rfl (qF rfl rfl ty64 rfl rfl (qL rfl rfl rfl rfl ty3 rfl (qE rfl rfl rfl (qM rfl rfl (Sd rfl rfl rfl ‹_› rfl (Sd rfl rfl rfl ‹_› rfl (Sd rfl rfl rfl ‹_› rfl (qT rfl rfl ‹_› rfl (qM rfl rfl (Gd rfl rfl rfl rfl rfl (Fa rfl rfl ty64 rfl (by decide)) (Gd rfl rfl rfl rfl rfl (La rfl rfl rfl ty42 rfl (Tl rfl)) (Gd rfl rfl rfl rfl rfl (C0 (fr:=[]) rfl rfl (v1) fok83 (.cons rfl (.pure rfl) .nil) rfl) (qT rfl rfl rfl rfl (qM rfl rfl (Gd rfl rfl rfl rfl rfl (Fa rfl rfl ty64 rfl (by decide)) (Gd rfl rfl rfl rfl rfl (La rfl rfl rfl ty42 rfl (Tl rfl)) (Gd rfl rfl rfl rfl rfl (C0 (fr:=[]) rfl rfl (v2) fok83 (.cons rfl (.pure rfl) .nil) rfl) (qT rfl rfl rfl rfl (qM rfl rfl (Gd rfl rfl rfl rfl rfl (Fa rfl rfl ty64 rfl (by decide)) (Gd rfl rfl rfl rfl rfl (Fa rfl rfl ty42 rfl (by decide)) (Gd rfl rfl rfl rfl rfl (Ld rfl rfl rfl rfl ty4 rfl) (Gd rfl rfl rfl rfl rfl (Nt rfl rfl) (qT rfl rfl rfl rfl (qM rfl rfl (Gd rfl rfl rfl rfl rfl (Fa rfl rfl ty64 rfl (by decide)) (Gd rfl rfl rfl rfl rfl (Fa rfl rfl ty42 rfl (by decide)) (Gd rfl rfl rfl rfl rfl (Ld rfl rfl rfl rfl ty4 rfl) (Gd rfl rfl rfl rfl rfl (Nt rfl rfl) (qT rfl rfl rfl rfl (qA rfl rfl (Nl (Wz ⟨.inl rfl,_,mt,Rc (Rt rfl) (Rn),all_mt,?_⟩))))))))))))))))))))))))))))))))))
    exact ⟨rfl,rfl⟩
  case' false =>
    have k2 : (op == 2) = true := by rcases hop with h | h; · rw [h] at k1; cases k1
                                     · exact h
    refine Wq (qW 6 37 rfl rfl rfl (qF rfl rfl ty64 rfl rfl (qL rfl rfl rfl rfl ty3 rfl (qE rfl rfl rfl (qM rfl rfl (Gd rfl rfl rfl ‹_› rfl (Fa rfl rfl ty64 rfl (by decide)) (Gd rfl rfl rfl ‹_› rfl (Ld rfl rfl rfl rfl ty3 rfl) (Gd rfl rfl rfl ‹_› rfl (Eq0 rfl rfl rfl) (qP rfl rfl ‹_› rfl (qM rfl rfl (Gd rfl rfl rfl ‹_› rfl (Fa rfl rfl ty64 rfl (by decide)) (Gd rfl rfl rfl ‹_› rfl (La rfl rfl rfl ty42 rfl (Tl rfl)) (Gd rfl rfl rfl ‹_› rfl (C0 (fr:=[]) rfl rfl (v1) fok83 (.cons rfl (.pure rfl) .nil) rfl) (qT rfl rfl ‹_› rfl (qM rfl rfl (Gd rfl rfl rfl rfl rfl (Fa rfl rfl ty64 rfl (by decide)) (Gd rfl rfl rfl rfl rfl (La rfl rfl rfl ty42 rfl (Tl rfl)) (Gd rfl rfl rfl rfl rfl (C0 (fr:=[]) rfl rfl (v2) fok83 (.cons rfl (.pure rfl) .nil) rfl) (qT rfl rfl rfl rfl (qM rfl rfl (Gd rfl rfl rfl rfl rfl (Fa rfl rfl ty64 rfl (by decide)) (Gd rfl rfl rfl rfl rfl (Fa rfl rfl ty42 rfl (by decide)) (Gd rfl rfl rfl rfl rfl (Ld rfl rfl rfl rfl ty4 rfl) (Gd rfl rfl rfl rfl rfl (Nt rfl rfl) (qT rfl rfl rfl rfl (qM rfl rfl (Gd rfl rfl rfl rfl rfl (Fa rfl rfl ty64 rfl (by decide)) (Gd rfl rfl rfl rfl rfl (Fa rfl rfl ty42 rfl (by decide)) (Gd rfl rfl rfl rfl rfl (Ld rfl rfl rfl rfl ty4 rfl) (Gd rfl rfl rfl rfl rfl (Nt rfl rfl) (qT rfl rfl rfl rfl (qA rfl rfl (Nl (Wz ⟨.inl rfl,_,mt,Rc (Rt rfl) (Rn),all_mt,?_⟩))))))))))))))))))))))))))))))))))
    exact ⟨rfl,rfl⟩
def arpB (a:Arp):List Int:=[0,1,8,0,6,4,0,IntKind.u8.wrap a.op]++a.fm++addrL a.fr++a.tm++addrL a.tt
theorem arpB_len {a:Arp} (h1:a.fm.length=6) (h2:a.tm.length=6) (h3:a.fr.v6=false) (h4:a.tt.v6=false):(arpB a).length=28:=by
  unfold arpB
  simp [List.length_append,h1,h2,addrL_len,h3,h4]
set_option maxHeartbeats 2000000 in
theorem encO_any (a:Arp) (h1:a.fm.length=6) (h2:a.tm.length=6) (hv:arpV a=true) (u1:U64 a.fr.hi∧U64 a.fr.lo) (u2:U64 a.tt.hi∧U64 a.tt.lo):AFn Tryz.prog 17 0 [.agg (arpC a)] mt (.tup [.osl 0 0 28 1,.base (.int .i64 0)]) (up mt 0 (some (bytesC (arpB a)))):=by
  refine AFn.eq Tryz.func17 rfl rfl (Nat.le_of_ble_eq_true rfl) ?_
  have hva:=arpX_yes a h1 h2 hv
  unfold arpV ip4 at hv
  simp only [Bool.and_eq_true,Bool.or_eq_true,Bool.not_eq_true'] at hv
  obtain ⟨hop,⟨e1,e2⟩,e3,e4⟩:=hv
  have b1:=bytesX_any a.fr e1 u1.1 u1.2
  have b2:=bytesX_any a.tt e3 u2.1 u2.2
  have l1:=addrL_len a.fr
  have l2:=addrL_len a.tt
  rw [e2] at l1
  rw [e4] at l2
  unfold arpB
  obtain ⟨op,fm,fr,tm,tt⟩:=a
  dsimp only at *
  generalize addrL fr=L1 at *
  generalize addrL tt=L2 at *
  have l1:L1.length=4:=l1
  have l2:L2.length=4:=l2
  obtain ⟨x0,x1,x2,x3,rfl⟩:∃ a b c d,L1=[a,b,c,d]:=by
    match L1,l1 with
    | [a,b,c,d],_=>exact ⟨_,_,_,_,rfl⟩
  obtain ⟨y0,y1,y2,y3,rfl⟩:∃ a b c d,L2=[a,b,c,d]:=by
    match L2,l2 with
    | [a,b,c,d],_=>exact ⟨_,_,_,_,rfl⟩
  obtain ⟨m0,m1,m2,m3,m4,m5,rfl⟩:=six_of h1
  obtain ⟨n0,n1,n2,n3,n4,n5,rfl⟩:=six_of h2
  refine Wq (qW 0 3 rfl rfl rfl (qC rfl rfl rfl (qA rfl rfl (qA rfl rfl (Nl (Wq (Wq (qW 7 10 rfl rfl rfl (qG rfl rfl rfl ty64 rfl (Tl rfl) (Od rfl rfl (C0 (fr:=[]) rfl rfl (hva) fok43 (.cons rfl (.pure rfl) .nil) rfl) (qO rfl rfl (Nl (Wf rfl rfl (Wk (W.frzo (t:=1) rfl rfl rfl (Wq (Wd 20 28 (by decide) rfl mixed rfl (qI rfl rfl ty64 rfl rfl (Od rfl rfl (Li rfl rfl rfl ty3 rfl) (Od rfl rfl (LO.conv rfl rfl ty3 ty5) (Od rfl rfl (LO.buildSlice rfl ty24 ty5 (by decide) (by decide) (.cons rfl rfl rfl rfl (Sl rfl) (.cons rfl rfl rfl rfl (Sl rfl) (.cons rfl rfl rfl rfl (Sl rfl) (.cons rfl rfl rfl rfl (Sl rfl) (.cons rfl rfl rfl rfl (Sl rfl) (.cons rfl rfl rfl rfl (Sl rfl) (.cons rfl rfl rfl rfl (Sl rfl) (.cons rfl rfl rfl rfl (Sl rfl) .nil))))))))) (qI rfl rfl ty64 rfl rfl (Od rfl rfl (LO.slice_imm rfl rfl ty23 ty5 (Tl rfl) (by decide)) (Od rfl rfl (Lap rfl rfl (Ssi rfl rfl (by first|rfl|assumption)) rfl (Tl rfl) ty24 ty24 ty5 (by decide) (by first|omega|decide|assumption|(simp;done)|(simp;omega)) (by first|omega|decide|assumption|(simp;done)|(simp;omega)) (by first|decide|omega)) (qA rfl rfl (Nl ⟨by kernel_rfl,(Wq (Wd 32 41 (by decide) rfl mixed rfl (qM rfl rfl (qI rfl rfl ty64 rfl rfl (Od rfl rfl (Lg rfl rfl ty42 rfl (Tl rfl)) (Od rfl rfl (LO.callO (fr:=[]) rfl rfl (b1) fok44 (.cons rfl (.pure rfl) .nil) rfl (by decide)) (Od rfl rfl (Lap rfl rfl (Sso rfl rfl (Tl rfl)) rfl (Tl rfl) ty24 ty24 ty5 (by decide) (by first|omega|decide|assumption|(simp;done)|(simp;omega)) (by first|omega|decide|assumption|(simp;done)|(simp;omega)) (by first|decide|omega)) (qI rfl rfl ty64 rfl rfl (Od rfl rfl (LO.slice_imm rfl rfl ty23 ty5 (Tl rfl) (by decide)) (Od rfl rfl (Lap rfl rfl (Ssi rfl rfl (by first|rfl|assumption)) rfl (Tl rfl) ty24 ty24 ty5 (by decide) (by first|omega|decide|assumption|(simp;done)|(simp;omega)) (by first|omega|decide|assumption|(simp;done)|(simp;omega)) (by first|decide|omega)) (qA rfl rfl (Nl ⟨by kernel_rfl,(Wq (qW 45 52 rfl rfl rfl (qM rfl rfl (qI rfl rfl ty64 rfl rfl (Od rfl rfl (Lg rfl rfl ty42 rfl (Tl rfl)) (Od rfl rfl (LO.callO (fr:=[]) rfl rfl (b2) fok44 (.cons rfl (.pure rfl) .nil) rfl (by decide)) (Od rfl rfl (Lap rfl rfl (Sso rfl rfl (Tl rfl)) rfl (Tl rfl) ty24 ty24 ty5 (by decide) (by first|omega|decide|assumption|(simp;done)|(simp;omega)) (by first|omega|decide|assumption|(simp;done)|(simp;omega)) (by first|decide|omega)) (qA rfl rfl (qA rfl rfl (Nl (W.rename [(0,49)] 1 (T':=up (up mt 3 (some (.base (.int .i64 0)))) 2 (some (.osl 0 0 28 1))) (H':=up mt 0 (some (bytesC ([0,1,8,0,6,4,0,IntKind.u8.wrap op]++[m0,m1,m2,m3,m4,m5]++[x0,x1,x2,x3]++[n0,n1,n2,n3,n4,n5]++[y0,y1,y2,y3])))) (by decide) ?_ ?_ ?_)))))))))))⟩))))))))))))⟩))))))))))))))))))))))))))
  · (repeat' (first|exact all_mt|refine all_up ?_ ?_))<;>first|exact .inl ⟨rfl,rfl⟩|exact .inr ⟨rfl,fun _ h=>by cases h⟩|exact .inl ⟨rfl,by first|rfl|assumption ⟩
  · (repeat' (first|exact all_mt|refine all_up ?_ ?_))<;>first|exact ⟨rfl,_,rfl,.inr ⟨rfl,rfl⟩⟩|exact ⟨rfl,_,rfl,.inl rfl⟩|exact ⟨rfl,_,rfl,.inr ⟨rfl,by first|rfl|assumption ⟩⟩
  refine Wz ⟨.inl rfl,_,up mt 0 (some (bytesC ([0,1,8,0,6,4,0,IntKind.u8.wrap op]++[m0,m1,m2,m3,m4,m5]++[x0,x1,x2,x3]++[n0,n1,n2,n3,n4,n5]++[y0,y1,y2,y3]))),Rc (Rt rfl) (Rc (Rt rfl) Rn),all_up rfl all_mt,?_⟩
  exact ⟨rfl,rfl⟩
theorem encA_any (a:Arp) (h1:a.fm.length=6) (h2:a.tm.length=6) (hv:arpV a=true) (u1:U64 a.fr.hi∧U64 a.fr.lo) (u2:U64 a.tt.hi∧U64 a.tt.lo):AFn Tryz.prog 17 0 [.agg (arpC a)] mt (.tup [.isl (bytesC (arpB a)) 28,.base (.int .i64 0)]) mt:=by
  refine AFn.frozenT (encO_any a h1 h2 hv u1 u2) (bytes_tk ?_) (bytesC_pure _)
  unfold arpV ip4 at hv
  simp only [Bool.and_eq_true,Bool.or_eq_true,Bool.not_eq_true'] at hv
  exact arpB_len h1 h2 hv.2.1.2 hv.2.2.2
end Go.Proofs.YtcidmiacfjdepaaGreatDoor
namespace Go.Proofs.YtcidmiacfjdepaaGreatDoor
open Go.RowKit
theorem nextV_bd (l:List Int) (at_:Nat) (n:Int) (hn:1≤n):0≤nextV l at_ n∧nextV l at_ n < n:=by
  unfold nextV
  split
  · exact ⟨Int.emod_nonneg _ (by omega),Int.emod_lt_of_pos _ (by omega)⟩
  · omega
end Go.Proofs.YtcidmiacfjdepaaGreatDoor
