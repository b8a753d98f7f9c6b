/-
  Messages of address resolution: reading them; stations; finding a station among the rules, an address among the bindings.
-/
import Derived.Test.YtcidmiacfjdepaaGreatDoorJj
import Derived.Test.YtcidmiacfjdepaaGreatDoorCb
import Derived.Test.YtcidmiacfjdepaaGreatDoorMab
namespace Go.Proofs.YtcidmiacfjdepaaGreatDoor
open Go.RowKit
structure Arp where
  op:Int
  fm:List Int
  fr:Ad
  tm:List Int
  tt:Ad
def arpC (a:Arp):List AV:=[.base (.int .i64 a.op)]++bytesC a.fm++adC a.fr++bytesC a.tm++adC a.tt
def zArp:Arp:=⟨0,[0,0,0,0,0,0],⟨false,0,0⟩,[0,0,0,0,0,0],⟨false,0,0⟩⟩
def ip4 (a:Ad):Bool:=validA a.v6 a.hi a.lo && !a.v6
def arpV (a:Arp):Bool:=(a.op == 1 || a.op == 2) && (ip4 a.fr && ip4 a.tt)
theorem arpV_any (a:Arp) (h1:a.fm.length=6) (h2:a.tm.length=6):AFn Tryz.prog 55 0 [.agg (arpC a)] mt (.base (.bool (arpV a))) mt:=by
  refine AFn.eq Tryz.func55 rfl rfl (Nat.le_of_ble_eq_true rfl) ?_
  have v1:=avalid_any a.fr
  have v2:=avalid_any a.tt
  obtain ⟨op,fm,fr,tm,tt⟩:=a
  dsimp only at h1 h2 v1 v2
  match fm,tm,h1,h2 with
  | [a0,a1,a2,a3,a4,a5],[b0,b1,b2,b3,b4,b5],_,_ =>
    unfold arpV ip4
    dsimp only
    generalize hf:validA fr.v6 fr.hi fr.lo=vf at *
    generalize ht:validA tt.v6 tt.hi tt.lo=vt at *
    obtain ⟨f6,fh,fl⟩:=fr
    obtain ⟨t6,th,tl⟩:=tt
    refine Wq (qW 0 2 rfl rfl rfl (qC rfl rfl rfl (qA rfl rfl (Nl (Wq (qW 6 37 rfl rfl rfl (qF rfl rfl ty64 rfl rfl (qL rfl rfl rfl rfl ty3 rfl (qE rfl rfl rfl (qM rfl rfl (RW.split (t:=6) rfl (fun hb1=>?_) (fun hb1=>?_))))))))))))
    ·
      try (have hb1p:=of_decide_eq_true hb1)
      try (have hb1q:=eq_of_beq hb1)
      refine Sd rfl rfl rfl hb1 rfl (Sd rfl rfl rfl hb1 rfl (Sd rfl rfl rfl hb1 rfl (qT rfl rfl hb1 rfl (qM rfl rfl (Gd rfl rfl rfl rfl rfl (Fa rfl rfl ty64 rfl (by decide)) (Gd rfl rfl rfl rfl rfl (La rfl rfl rfl ty42 rfl (Tl rfl)) (Gd rfl rfl rfl rfl rfl (C0 (fr:=[]) rfl rfl ((by first|exact v1|exact v2)) fok87 (.cons rfl (.pure rfl) .nil) rfl) (qT rfl rfl rfl rfl (qM rfl rfl (RW.split (t:=16) rfl (fun hb2=>?_) (fun hb2=>?_)))))))))))
      ·
        try (have hb2p:=of_decide_eq_true hb2)
        try (have hb2q:=eq_of_beq hb2)
        refine Gd rfl rfl rfl hb2 rfl (Fa rfl rfl ty64 rfl (by decide)) (Gd rfl rfl rfl hb2 rfl (Fa rfl rfl ty42 rfl (by decide)) (Gd rfl rfl rfl hb2 rfl (Ld rfl rfl rfl rfl ty4 rfl) (Gd rfl rfl rfl hb2 rfl (Nt rfl rfl) (qT rfl rfl hb2 rfl (qM rfl rfl (RW.split (t:=22) rfl (fun hb3=>?_) (fun hb3=>?_)))))))
        ·
          try (have hb3p:=of_decide_eq_true hb3)
          try (have hb3q:=eq_of_beq hb3)
          refine Gd rfl rfl rfl hb3 rfl (Fa rfl rfl ty64 rfl (by decide)) (Gd rfl rfl rfl hb3 rfl (La rfl rfl rfl ty42 rfl (Tl rfl)) (Gd rfl rfl rfl hb3 rfl (C0 (fr:=[]) rfl rfl ((by first|exact v1|exact v2)) fok87 (.cons rfl (.pure rfl) .nil) rfl) (qT rfl rfl hb3 rfl (qM rfl rfl (RW.split (t:=27) rfl (fun hb4=>?_) (fun hb4=>?_))))))
          ·
            try (have hb4p:=of_decide_eq_true hb4)
            try (have hb4q:=eq_of_beq hb4)
            refine Gd rfl rfl rfl hb4 rfl (Fa rfl rfl ty64 rfl (by decide)) (Gd rfl rfl rfl hb4 rfl (Fa rfl rfl ty42 rfl (by decide)) (Gd rfl rfl rfl hb4 rfl (Ld rfl rfl rfl rfl ty4 rfl) (Gd rfl rfl rfl hb4 rfl (Nt rfl rfl) (qT rfl rfl hb4 rfl (qA rfl rfl (Nl (Wz ⟨.inl rfl,_,mt,Rc (Rt rfl) (Rn),all_mt,?_⟩)))))))
            exact ⟨by simp_all [retOf],rfl⟩
          ·
            try (have hb4p:=of_decide_eq_false hb4)
            try (have hb4q:=ne_of_beq_false hb4)
            refine Sd rfl rfl rfl hb4 rfl (Sd rfl rfl rfl hb4 rfl (Sd rfl rfl rfl hb4 rfl (Sd rfl rfl rfl hb4 rfl (qP rfl rfl hb4 rfl (qA rfl rfl (Nl (Wz ⟨.inl rfl,_,mt,Rc (Rt rfl) (Rn),all_mt,?_⟩)))))))
            exact ⟨by simp_all [retOf],rfl⟩
        ·
          try (have hb3p:=of_decide_eq_false hb3)
          try (have hb3q:=ne_of_beq_false hb3)
          refine Sd rfl rfl rfl hb3 rfl (Sd rfl rfl rfl hb3 rfl (Sd rfl rfl rfl hb3 rfl (qP rfl rfl hb3 rfl (qM rfl rfl (Sd rfl rfl rfl rfl rfl (Sd rfl rfl rfl rfl rfl (Sd rfl rfl rfl rfl rfl (Sd rfl rfl rfl rfl rfl (qP rfl rfl rfl rfl (qA rfl rfl (Nl (Wz ⟨.inl rfl,_,mt,Rc (Rt rfl) (Rn),all_mt,?_⟩))))))))))))
          exact ⟨by simp_all [retOf],rfl⟩
      ·
        try (have hb2p:=of_decide_eq_false hb2)
        try (have hb2q:=ne_of_beq_false hb2)
        refine Sd rfl rfl rfl hb2 rfl (Sd rfl rfl rfl hb2 rfl (Sd rfl rfl rfl hb2 rfl (Sd rfl rfl rfl hb2 rfl (qP rfl rfl hb2 rfl (qM rfl rfl (Sd rfl rfl rfl rfl rfl (Sd rfl rfl rfl rfl rfl (Sd rfl rfl rfl rfl rfl (qP rfl rfl rfl rfl (qM rfl rfl (Sd rfl rfl rfl rfl rfl (Sd rfl rfl rfl rfl rfl (Sd rfl rfl rfl rfl rfl (Sd rfl rfl rfl rfl rfl (qP rfl rfl rfl rfl (qA rfl rfl (Nl (Wz ⟨.inl rfl,_,mt,Rc (Rt rfl) (Rn),all_mt,?_⟩))))))))))))))))))
        exact ⟨by simp_all [retOf],rfl⟩
    ·
      try (have hb1p:=of_decide_eq_false hb1)
      try (have hb1q:=ne_of_beq_false hb1)
      refine Gd rfl rfl rfl hb1 rfl (Fa rfl rfl ty64 rfl (by decide)) (Gd rfl rfl rfl hb1 rfl (Ld rfl rfl rfl rfl ty3 rfl) (Gd rfl rfl rfl hb1 rfl (Eq0 rfl rfl rfl) (qP rfl rfl hb1 rfl (qM rfl rfl (RW.split (t:=11) rfl (fun hb5=>?_) (fun hb5=>?_))))))
      ·
        try (have hb5p:=of_decide_eq_true hb5)
        try (have hb5q:=eq_of_beq hb5)
        refine Gd rfl rfl rfl hb5 rfl (Fa rfl rfl ty64 rfl (by decide)) (Gd rfl rfl rfl hb5 rfl (La rfl rfl rfl ty42 rfl (Tl rfl)) (Gd rfl rfl rfl hb5 rfl (C0 (fr:=[]) rfl rfl ((by first|exact v1|exact v2)) fok87 (.cons rfl (.pure rfl) .nil) rfl) (qT rfl rfl hb5 rfl (qM rfl rfl (RW.split (t:=16) rfl (fun hb6=>?_) (fun hb6=>?_))))))
        ·
          try (have hb6p:=of_decide_eq_true hb6)
          try (have hb6q:=eq_of_beq hb6)
          refine Gd rfl rfl rfl hb6 rfl (Fa rfl rfl ty64 rfl (by decide)) (Gd rfl rfl rfl hb6 rfl (Fa rfl rfl ty42 rfl (by decide)) (Gd rfl rfl rfl hb6 rfl (Ld rfl rfl rfl rfl ty4 rfl) (Gd rfl rfl rfl hb6 rfl (Nt rfl rfl) (qT rfl rfl hb6 rfl (qM rfl rfl (RW.split (t:=22) rfl (fun hb7=>?_) (fun hb7=>?_)))))))
          ·
            try (have hb7p:=of_decide_eq_true hb7)
            try (have hb7q:=eq_of_beq hb7)
            refine Gd rfl rfl rfl hb7 rfl (Fa rfl rfl ty64 rfl (by decide)) (Gd rfl rfl rfl hb7 rfl (La rfl rfl rfl ty42 rfl (Tl rfl)) (Gd rfl rfl rfl hb7 rfl (C0 (fr:=[]) rfl rfl ((by first|exact v1|exact v2)) fok87 (.cons rfl (.pure rfl) .nil) rfl) (qT rfl rfl hb7 rfl (qM rfl rfl (RW.split (t:=27) rfl (fun hb8=>?_) (fun hb8=>?_))))))
            ·
              try (have hb8p:=of_decide_eq_true hb8)
              try (have hb8q:=eq_of_beq hb8)
              refine Gd rfl rfl rfl hb8 rfl (Fa rfl rfl ty64 rfl (by decide)) (Gd rfl rfl rfl hb8 rfl (Fa rfl rfl ty42 rfl (by decide)) (Gd rfl rfl rfl hb8 rfl (Ld rfl rfl rfl rfl ty4 rfl) (Gd rfl rfl rfl hb8 rfl (Nt rfl rfl) (qT rfl rfl hb8 rfl (qA rfl rfl (Nl (Wz ⟨.inl rfl,_,mt,Rc (Rt rfl) (Rn),all_mt,?_⟩)))))))
              exact ⟨by simp_all [retOf],rfl⟩
            ·
              try (have hb8p:=of_decide_eq_false hb8)
              try (have hb8q:=ne_of_beq_false hb8)
              refine Sd rfl rfl rfl hb8 rfl (Sd rfl rfl rfl hb8 rfl (Sd rfl rfl rfl hb8 rfl (Sd rfl rfl rfl hb8 rfl (qP rfl rfl hb8 rfl (qA rfl rfl (Nl (Wz ⟨.inl rfl,_,mt,Rc (Rt rfl) (Rn),all_mt,?_⟩)))))))
              exact ⟨by simp_all [retOf],rfl⟩
          ·
            try (have hb7p:=of_decide_eq_false hb7)
            try (have hb7q:=ne_of_beq_false hb7)
            refine Sd rfl rfl rfl hb7 rfl (Sd rfl rfl rfl hb7 rfl (Sd rfl rfl rfl hb7 rfl (qP rfl rfl hb7 rfl (qM rfl rfl (Sd rfl rfl rfl rfl rfl (Sd rfl rfl rfl rfl rfl (Sd rfl rfl rfl rfl rfl (Sd rfl rfl rfl rfl rfl (qP rfl rfl rfl rfl (qA rfl rfl (Nl (Wz ⟨.inl rfl,_,mt,Rc (Rt rfl) (Rn),all_mt,?_⟩))))))))))))
            exact ⟨by simp_all [retOf],rfl⟩
        ·
          try (have hb6p:=of_decide_eq_false hb6)
          try (have hb6q:=ne_of_beq_false hb6)
          refine Sd rfl rfl rfl hb6 rfl (Sd rfl rfl rfl hb6 rfl (Sd rfl rfl rfl hb6 rfl (Sd rfl rfl rfl hb6 rfl (qP rfl rfl hb6 rfl (qM rfl rfl (Sd rfl rfl rfl rfl rfl (Sd rfl rfl rfl rfl rfl (Sd rfl rfl rfl rfl rfl (qP rfl rfl rfl rfl (qM rfl rfl (Sd rfl rfl rfl rfl rfl (Sd rfl rfl rfl rfl rfl (Sd rfl rfl rfl rfl rfl (Sd rfl rfl rfl rfl rfl (qP rfl rfl rfl rfl (qA rfl rfl (Nl (Wz ⟨.inl rfl,_,mt,Rc (Rt rfl) (Rn),all_mt,?_⟩))))))))))))))))))
          exact ⟨by simp_all [retOf],rfl⟩
      ·
        try (have hb5p:=of_decide_eq_false hb5)
        try (have hb5q:=ne_of_beq_false hb5)
        refine Sd rfl rfl rfl hb5 rfl (Sd rfl rfl rfl hb5 rfl (Sd rfl rfl rfl hb5 rfl (qP rfl rfl hb5 rfl (qM rfl rfl (Sd rfl rfl rfl rfl rfl (Sd rfl rfl rfl rfl rfl (Sd rfl rfl rfl rfl rfl (Sd rfl rfl rfl rfl rfl (qP rfl rfl rfl rfl (qM rfl rfl (Sd rfl rfl rfl rfl rfl (Sd rfl rfl rfl rfl rfl (Sd rfl rfl rfl rfl rfl (qP rfl rfl rfl rfl (qM rfl rfl (Sd rfl rfl rfl rfl rfl (Sd rfl rfl rfl rfl rfl (Sd rfl rfl rfl rfl rfl (Sd rfl rfl rfl rfl rfl (qP rfl rfl rfl rfl (qA rfl rfl (Nl (Wz ⟨.inl rfl,_,mt,Rc (Rt rfl) (Rn),all_mt,?_⟩)))))))))))))))))))))))
        exact ⟨by simp_all [retOf],rfl⟩
def grpE (m:List Int):Bool:=bitV .and .u8 (gB m 0) 1 == 1
theorem grpE_any (m:List Int) (hl:m.length=6):AFn Tryz.prog 25 0 [.agg (bytesC m)] mt (.base (.bool (grpE m))) mt:=by
  refine AFn.eq Tryz.func25 rfl rfl (Nat.le_of_ble_eq_true rfl) (Wq (qW 0 2 rfl rfl rfl (qC rfl rfl rfl (qA rfl rfl (Nl (Wq (qW 6 11 rfl rfl rfl (Od rfl rfl (Ir rfl rfl rfl rfl ty23 ty5 (by first|omega|decide|assumption|(simp;done)|(simp;omega))) (qL rfl rfl rfl (by_at0 (by rw [hl];decide)) ty5 rfl (Od rfl rfl (LO.and rfl rfl rfl) (qE rfl rfl rfl (qA rfl rfl (Nl (Wz ⟨.inl rfl,_,mt,Rc (Rt rfl) (Rn),all_mt,?_⟩))))))))))))))
  exact ⟨rfl,rfl⟩
def bcM:List Int:=[255,255,255,255,255,255]
theorem bcE_any:AFn Tryz.prog 23 0 [] mt (.agg (bytesC bcM)) mt:=by
  refine AFn.eq Tryz.func23 rfl rfl (Nat.le_of_ble_eq_true rfl) (Wq (qW 0 1 rfl rfl rfl (qB rfl ty23 (Nl (Wq (qW 5 7 rfl rfl rfl (Od rfl rfl (LO.build_ar rfl ty23 ty5 (.cons rfl rfl rfl rfl (Sl rfl) (.cons rfl rfl rfl rfl (Sl rfl) (.cons rfl rfl rfl rfl (Sl rfl) (.cons rfl rfl rfl rfl (Sl rfl) (.cons rfl rfl rfl rfl (Sl rfl) (.cons rfl rfl rfl rfl (Sl rfl) .nil))))))) (qS rfl rfl rfl rfl rfl ty23 rfl rfl (Sl rfl) (Nl ?_)))))))))
  refine W.ret ⟨.inl rfl,_,mt,(RVs.cons (RV.cellA rfl rfl ty23 rfl (Tk.lit rfl)) RVs.nil),(by (repeat' (first|exact all_mt|refine all_up ?_ ?_))<;>rfl),?_⟩
  exact ⟨rfl,rfl⟩
theorem bcX_any:AFn Tryz.prog 19 0 [] mt (.agg (bytesC bcM)) mt:=by
  refine AFn.eq Tryz.func19 rfl rfl (Nat.le_of_ble_eq_true rfl) (Wq (qW 0 1 rfl rfl rfl (qB rfl ty23 (Nl (Wq (qW 5 7 rfl rfl rfl (Od rfl rfl (LO.build_ar rfl ty23 ty5 (.cons rfl rfl rfl rfl (Sl rfl) (.cons rfl rfl rfl rfl (Sl rfl) (.cons rfl rfl rfl rfl (Sl rfl) (.cons rfl rfl rfl rfl (Sl rfl) (.cons rfl rfl rfl rfl (Sl rfl) (.cons rfl rfl rfl rfl (Sl rfl) .nil))))))) (qS rfl rfl rfl rfl rfl ty23 rfl rfl (Sl rfl) (Nl ?_)))))))))
  refine W.ret ⟨.inl rfl,_,mt,(RVs.cons (RV.cellA rfl rfl ty23 rfl (Tk.lit rfl)) RVs.nil),(by (repeat' (first|exact all_mt|refine all_up ?_ ?_))<;>rfl),?_⟩
  exact ⟨rfl,rfl⟩
/-- where a station stands in a list; -1: nowhere -/
def idxM (l:List (List Int)) (m:List Int):Int:=if m∈l then (l.idxOf m:Int) else -1
theorem idxM_at {l:List (List Int)} {m:List Int} {i:Nat} (h:i < l.length) (hno:∀ j,j < i→l[j]?≠some m) (e:m=l[i]):idxM l m=(i:Int):=by
  have hm:m∈l:=e ▸ List.getElem_mem h
  unfold idxM
  rw [if_pos hm]
  have h1:l.idxOf m≤i:=by
    rcases Nat.lt_or_ge i (l.idxOf m) with h2|h2
    · have:=List.not_of_lt_findIdx (show i < l.findIdx (· == m) from h2)
      simp [← e] at this
    · exact h2
  have h2:¬ l.idxOf m < i:=fun h3=>hno _ h3 (by rw [List.getElem?_eq_getElem (by omega)];simp)
  omega
theorem idxM_no {l:List (List Int)} {m:List Int} (hno:∀ j,j < l.length→l[j]?≠some m):idxM l m=-1:=by
  unfold idxM
  rw [if_neg fun hm=>by
    obtain ⟨j,hj,e⟩:=List.getElem_of_mem hm
    exact hno j hj (by rw [List.getElem?_eq_getElem hj,e])]
theorem idxM_nn (l:List (List Int)) (m:List Int):decide (idxM l m ≥ 0)=decide (m∈l):=by
  unfold idxM
  split
  · rename_i h;simp [h];
  · rename_i h;simp [h]
theorem no_nextM {l:List (List Int)} {v:List Int} {i:Nat} (hno:∀ j,j < i→l[j]?≠some v) (hc:i < l.length) (e:¬ v=l[i]):∀ j,j < i + 1→l[j]?≠some v:=fun j hj h=>by
  rcases Nat.lt_or_ge j i with h1|h1
  · exact hno j h1 h
  · obtain rfl:j=i:=by omega
    rw [List.getElem?_eq_getElem hc] at h
    injection h with h
    exact e h.symm
theorem idxM_any (l:List (List Int)) (m:List Int) (hl:∀ x,x∈l→x.length=6) (hm:m.length=6) (hn:l.length≤1000):AFn Tryz.prog 104 0 [.isl (macsC l) l.length,.agg (bytesC m)] mt (.base (.int .i64 (idxM l m))) mt:=by
  refine AFn.eq Tryz.func104 rfl rfl (Nat.le_of_ble_eq_true rfl) (Wq (qW 0 2 rfl rfl rfl (qC rfl rfl rfl (qA rfl rfl (Nl (Wq (Wq (qW 6 9 rfl rfl rfl (qM rfl rfl (qH rfl rfl rfl ty32 (qM rfl rfl (Nl (Wb (W.rename [(0,0)] 1 (T':=up (up (up (up mt 0 (some (.isl (macsC l) l.length))) 3 (some (.own 0 0))) 7 (some (.base (.int .i64 (l.length:Int))))) 8 (some (.base (.int .i64 (0:Int))))) (H':=up mt 0 (some (bytesC m))) (by decide) ?_ ?_ ?_))))))))))))))
  · (repeat' (first|exact all_mt|refine all_up ?_ ?_))<;>first|exact .inl ⟨rfl,rfl⟩|exact .inr ⟨rfl,fun _ h=>by cases h⟩|exact .inl ⟨rfl,by first|rfl|assumption|exact (bytesC_pure _)⟩
  · (repeat' (first|exact all_mt|refine all_up ?_ ?_))<;>first|exact ⟨rfl,_,rfl,.inr ⟨rfl,rfl⟩⟩|exact ⟨rfl,_,rfl,.inl rfl⟩|exact ⟨rfl,_,rfl,.inr ⟨rfl,by first|rfl|assumption|exact (bytesC_pure _)⟩⟩
  refine W.loop_ind (α:=Nat) (fun x=>l.length - x) 1 (fun x=>up (up (up (up mt 0 (some (.isl (macsC l) l.length))) 3 (some (.own 0 0))) 7 (some (.base (.int .i64 (l.length:Int))))) 8 (some (.base (.int .i64 (x:Int))))) (fun x=>up mt 0 (some (bytesC m))) (fun x=>x≤l.length∧∀ jj,jj < x→l[jj]?≠some m) 0 (show 0≤l.length∧∀ jj,jj < 0→l[jj]?≠some m from ⟨Nat.zero_le _,fun j h=>absurd h (Nat.not_lt_zero _)⟩) ?_
  rintro i hIA ihA
  try (dsimp only at hIA)
  try dsimp only
  obtain ⟨hi,hno⟩:=hIA
  by_cases hc:i < l.length
  · have g1:decide ((i:Int) < (l.length:Int))=true:=decide_eq_true (by omega)
    have h6:=hl _ (List.getElem_mem hc)
    refine Wq (qW 13 14 rfl rfl rfl (qK rfl rfl rfl (Nl (Wq (Wt rfl ‹_› (Wk (Wq (Wb (Wq (qW 18 20 rfl rfl rfl (qM rfl rfl (qA rfl rfl (Nl ?_)))))))))))))
    by_cases e:m=l[i]
    · have k1:decide (m=l[i])=true:=decide_eq_true e
      have hx:=idxM_at hc hno e
      refine Wq (Wd 24 30 (by decide) rfl mixed rfl (qG rfl rfl rfl ty23 rfl (bytes_tk hm) (qM rfl rfl (qM rfl rfl (qJ rfl rfl rfl rfl rfl ty32 ty23 (by first|omega|decide|assumption|(simp;done)|(simp;omega)) (Od rfl rfl (Lg rfl rfl ty23 rfl (macs_tk hl hc)) (Od rfl rfl (LO.eql_mac m l[i] hm h6 rfl rfl rfl) (Nl ⟨by kernel_rfl,(Wt rfl ‹_› (Wq (qW 34 36 rfl rfl rfl (qM rfl rfl (qA rfl rfl (Nl (Wz ⟨.inl rfl,_,mt,Rc (Rt rfl) (Rn),all_mt,?_⟩)))))))⟩))))))))
      exact ⟨by rw [hx];rfl,rfl⟩
    · have k1:decide (m=l[i])=false:=decide_eq_false e
      refine Wq (Wd 24 30 (by decide) rfl mixed rfl (qG rfl rfl rfl ty23 rfl (bytes_tk hm) (qM rfl rfl (qM rfl rfl (qJ rfl rfl rfl rfl rfl ty32 ty23 (by first|omega|decide|assumption|(simp;done)|(simp;omega)) (Od rfl rfl (Lg rfl rfl ty23 rfl (macs_tk hl hc)) (Od rfl rfl (LO.eql_mac m l[i] hm h6 rfl rfl rfl) (Nl ⟨by kernel_rfl,(Wf rfl ‹_› (Wk (qW 40 42 rfl rfl rfl (qZ rfl rfl rfl (by (first|exact IntWalk.i64_in _ (by omega)|assumption)) (qM rfl rfl (Nl (WL.rename [(0,0)] 1 (by decide) ?_ ?_ (ihA (i + 1) (show l.length - (i + 1) < l.length - i from by omega) (show (i + 1)≤l.length∧∀ jj,jj < (i + 1)→l[jj]?≠some m from ⟨by omega,no_nextM hno hc e⟩)))))))))⟩))))))))
      · (repeat' (first|exact all_mt|refine all_up ?_ ?_))<;>first|exact .inl ⟨rfl,rfl⟩|exact .inr ⟨rfl,fun _ h=>by cases h⟩|exact .inl ⟨rfl,by first|rfl|assumption|exact (bytesC_pure _)⟩
      · (repeat' (first|exact all_mt|refine all_up ?_ ?_))<;>first|exact ⟨rfl,_,rfl,.inr ⟨rfl,rfl⟩⟩|exact ⟨rfl,_,rfl,.inl rfl⟩|exact ⟨rfl,_,rfl,.inr ⟨rfl,by first|rfl|assumption|exact (bytesC_pure _)⟩⟩
  · have g1:decide ((i:Int) < (l.length:Int))=false:=decide_eq_false (by omega)
    refine Wq (qW 13 14 rfl rfl rfl (qK rfl rfl rfl (Nl (Wq (Wf rfl ‹_› (Wx ?_))))))
    obtain rfl:i=l.length:=by omega
    refine Wq (qW 46 47 rfl rfl rfl (qA rfl rfl (Nl (Wz ⟨.inl rfl,_,mt,Rc (Rt rfl) (Rn),all_mt,?_⟩))))
    exact ⟨by rw [idxM_no hno];rfl,rfl⟩
theorem hasM_any (l:List (List Int)) (m:List Int) (hl:∀ x,x∈l→x.length=6) (hm:m.length=6) (hn:l.length≤1000):AFn Tryz.prog 93 0 [.isl (macsC l) l.length,.agg (bytesC m)] mt (.base (.bool (decide (m∈l)))) mt:=by
  refine AFn.eq Tryz.func93 rfl rfl (Nat.le_of_ble_eq_true rfl) ?_
  have hx:=idxM_any l m hl hm hn
  refine Wq (qW 0 2 rfl rfl rfl (qC rfl rfl rfl (qA rfl rfl (Nl (Wq (qW 6 11 rfl rfl rfl (qM rfl rfl (qG rfl rfl rfl ty23 rfl (bytes_tk hm) (Od rfl rfl (C0 (fr:=[]) rfl rfl (hx) fok104 (.cons rfl (.pure rfl) (.cons rfl (.pure (bytesC_pure _)) .nil)) rfl) (Od rfl rfl (Ge0 rfl rfl rfl) (qA rfl rfl (Nl ?_))))))))))))
  rw [idxM_nn]
  refine Wz ⟨.inl rfl,_,mt,Rc (Rt rfl) (Rn),all_mt,?_⟩
  exact ⟨rfl,rfl⟩
end Go.Proofs.YtcidmiacfjdepaaGreatDoor
