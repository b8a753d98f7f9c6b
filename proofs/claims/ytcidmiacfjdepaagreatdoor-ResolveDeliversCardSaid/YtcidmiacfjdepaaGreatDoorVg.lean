/-
  ResolveDelivers: its law.
-/
import Derived.Test.YtcidmiacfjdepaaGreatDoorVs
import Derived.Test.YtcidmiacfjdepaaGreatDoorMab
namespace Go.Proofs.YtcidmiacfjdepaaGreatDoor
open Go.RowKit
theorem FrY.spoilt {f:Fr} (h:FrY f) {L:List Int} (hB:IsB L) (hl:L.length≤f.data.length + 1):FrX ⟨f.dst,f.src,f.vl,f.ty,L⟩:=⟨⟨h.ok.d6,h.ok.s6,hB,by have:=h.dl;dsimp only;omega⟩,h.dB,h.sB⟩
theorem dlvF_ok {rs:List Rl} {bs:List Bd} {fm:Int} {f:Fr} (ht:TablesOk rs bs) (hf:FrX f):FrOk (dlvF rs bs fm f).2.1:=by
  unfold dlvF
  split
  · exact ⟨rfl,rfl,fun x hx=>by simp [zFr] at hx,by simp [zFr]⟩
  · exact ⟨tgtF_len ht hf.ok,hf.ok.s6,hf.ok.bB,hf.ok.bl⟩
theorem shortS_any (l:List Int):AFn Tryz.prog 4 0 [.isl (bytesC l) l.length] mt (.base (.bool (decide ((l.length:Int)≤600)))) mt:=by
  refine AFn.eq Tryz.func4 rfl rfl (Nat.le_of_ble_eq_true rfl) (Wq (qW 0 1 rfl rfl rfl (qA rfl rfl (Nl (Wq (qW 5 9 rfl rfl rfl (qM rfl rfl (qH rfl rfl rfl ty24 (Od rfl rfl (Le0 rfl rfl rfl) (qA rfl rfl (Nl (Wz ⟨.inl rfl,_,mt,Rc (Rt rfl) (Rn),all_mt,?_⟩))))))))))))
  exact ⟨rfl,rfl⟩
theorem tk3_0 {a b c:List AV} {n:Nat} (h:a.length=n):Tk (a++b++c) (0 * n) n a:=by
  refine ⟨h,fun j x hj=>?_⟩
  have hl:=(List.getElem?_eq_some_iff.1 hj).1
  rw [Nat.zero_mul,Nat.zero_add,List.append_assoc,List.getElem?_append_left hl]
  exact hj
theorem tk3_1 {a b c:List AV} {n:Nat} (h:a.length=n) (h2:b.length=n):Tk (a++b++c) (1 * n) n b:=by
  refine ⟨h2,fun j x hj=>?_⟩
  have hl:=(List.getElem?_eq_some_iff.1 hj).1
  rw [Nat.one_mul,List.append_assoc,List.getElem?_append_right (by omega),List.getElem?_append_left (by omega),h,Nat.add_sub_cancel_left]
  exact hj
theorem tk3_2 {a b c:List AV} {n:Nat} (h:a.length=n) (h2:b.length=n) (h3:c.length=n):Tk (a++b++c) (2 * n) n c:=by
  refine ⟨h3,fun j x hj=>?_⟩
  rw [List.getElem?_append_right (by rw [List.length_append];omega),List.length_append,h,h2,show 2 * n + j - (n + n)=j from by omega]
  exact hj
set_option maxHeartbeats 8000000 in
theorem delivers_law (raw:Fr) (l:List Int) (fm at_ by_:Int) (hr:raw.dst.length=6∧raw.src.length=6∧IsB raw.dst∧IsB raw.src∧IsB raw.data) (hl:l.length≤9223372036854775807):AFn Tryz.prog 3 0 [.agg (frC raw),.isl (l.map fun z=>.base (.int .i64 z)) l.length,.base (.int .i64 fm),.base (.int .i64 at_),.base (.int .i64 by_)] mt (.base (.bool true)) mt:=by
  refine AFn.eq Tryz.func3 rfl rfl (Nat.le_of_ble_eq_true rfl) ?_
  have hawk:=awake_any
  have hsh:=shortS_any raw.data
  by_cases hrl:raw.data.length≤600
  case' neg =>
    have e1:decide ((raw.data.length:Int)≤600)=false:=decide_eq_false (by omega)
    rw [e1] at hsh
    obtain ⟨rd,rs,rv,rt,rx⟩:=raw
    obtain ⟨h1,h2,_⟩:=hr
    dsimp only at h1 h2 hsh
    obtain ⟨p0,p1,p2,p3,p4,p5,rfl⟩:=six_of h1
    obtain ⟨q0,q1,q2,q3,q4,q5,rfl⟩:=six_of h2
    refine Wq (qW 0 2 rfl rfl rfl (qC rfl rfl rfl (qA rfl rfl (Nl (Wq (Wq (qW 6 10 rfl rfl rfl (qF rfl rfl ty26 rfl rfl (qL rfl rfl rfl rfl ty24 rfl (Od rfl rfl (C0 (fr:=[]) rfl rfl (hsh) fok4 (.cons rfl (.pure rfl) .nil) rfl) (qO rfl rfl (Nl (Wt rfl rfl (Wq (qW 14 16 rfl rfl rfl (Od rfl rfl (C0 (fr:=[]) rfl rfl (hawk) fok5 .nil rfl) (qA rfl rfl (Nl (Wz ⟨.inl rfl,_,mt,Rc (Rt rfl) (Rn),all_mt,?_⟩)))))))))))))))))))
    exact ⟨rfl,rfl⟩
  case' pos =>
    have e1:decide ((raw.data.length:Int)≤600)=true:=decide_eq_true (by omega)
    rw [e1] at hsh
    have hrx:FrX raw:=⟨⟨hr.1,hr.2.1,hr.2.2.2.2,by omega⟩,hr.2.2.1,hr.2.2.2.1⟩
    obtain ⟨_,_,hset,d,g,bs,j,f,hj,⟨hfine,hperm,hmo,hfy⟩,rfl,rfl⟩:=setting_any l hl
    have htab:=hfine.tables g 2 3 hperm hmo
    obtain ⟨L,⟨hLB,hLl⟩,hspo⟩:=spo_any f.data at_ by_ hfy.ok.bB (by have:=hfy.dl;omega)
    have hgx:=hfy.spoilt hLB hLl
    have hfx:=hfy.x
    generalize (allP d)[j]=P at *
    generalize (allP d).map (ruleOf g 2 3)=rs at *
    clear hfine hperm hmo hfy hLB hLl hj
    have hall:∀ i:Nat,i < 3→FrX ([raw,f,⟨f.dst,f.src,f.vl,f.ty,L⟩].getD i raw):=fun i hi=>by
      match i,hi with
      | 0,_=>exact hrx
      | 1,_=>exact hfx
      | 2,_=>exact hgx
    have htk:∀ i:Nat,i < 3→Tk (frC raw++frC f++frC ⟨f.dst,f.src,f.vl,f.ty,L⟩) (i * 15) 15 (frC ([raw,f,⟨f.dst,f.src,f.vl,f.ty,L⟩].getD i raw)):=fun i hi=>by
      have e1:(frC raw).length=15:=frC_len hrx.ok.d6 hrx.ok.s6
      have e2:(frC f).length=15:=frC_len hfx.ok.d6 hfx.ok.s6
      match i,hi with
      | 0,_=>exact tk3_0 e1
      | 1,_=>exact tk3_1 e1 e2
      | 2,_=>exact tk3_2 e1 e2 (frC_len (f:=⟨f.dst,f.src,f.vl,f.ty,L⟩) hgx.ok.d6 hgx.ok.s6)
    obtain ⟨rd,rss,rv,rt,rx⟩:=raw
    obtain ⟨h1,h2,_⟩:=hr
    obtain ⟨fd,fs,fv,ft,fx⟩:=f
    have h3:=hfx.ok.d6
    have h4:=hfx.ok.s6
    dsimp only at h1 h2 h3 h4 hsh hspo
    obtain ⟨p0,p1,p2,p3,p4,p5,rfl⟩:=six_of h1
    obtain ⟨q0,q1,q2,q3,q4,q5,rfl⟩:=six_of h2
    obtain ⟨d0,d1,d2,d3,d4,d5,rfl⟩:=six_of h3
    obtain ⟨s0,s1,s2,s3,s4,s5,rfl⟩:=six_of h4
    refine Wq (qW 0 2 rfl rfl rfl (qC rfl rfl rfl (qA rfl rfl (Nl (Wq (Wq (qW 6 10 rfl rfl rfl (qF rfl rfl ty26 rfl rfl (qL rfl rfl rfl rfl ty24 rfl (Od rfl rfl (C0 (fr:=[]) rfl rfl (hsh) fok4 (.cons rfl (.pure rfl) .nil) rfl) (qO rfl rfl (Nl (Wf rfl rfl (Wk (Wq (qW 20 33 rfl rfl rfl (qM rfl rfl (Od rfl rfl (C0 (fr:=[]) rfl rfl (hset) fok6 (.cons rfl (.pure rfl) .nil) rfl) (qM rfl rfl (qX rfl rfl rfl (qX rfl rfl rfl (qX rfl rfl rfl (qX rfl rfl rfl (qB rfl ty35 (qB rfl ty26 (qA rfl rfl (qA rfl rfl (qS rfl rfl rfl rfl rfl ty35 rfl rfl (Sl rfl) (qS rfl rfl rfl rfl rfl ty26 rfl rfl (Sl rfl) (Nl ?_))))))))))))))))))))))))))))))
    unfold ruleOf
    refine Wq (qW 37 40 rfl rfl rfl (qG rfl rfl rfl ty26 rfl (Tl rfl) (qB rfl ty26 (qS rfl rfl rfl rfl rfl ty26 rfl rfl (Sl rfl) (Nl (Wq (qW 44 51 rfl rfl rfl (qF rfl rfl ty26 rfl rfl (qL rfl rfl rfl rfl ty24 rfl (qM rfl rfl (qM rfl rfl (Od rfl rfl (C0 (fr:=[]) rfl rfl (hspo) fok7 (.cons rfl (.pure rfl) (.cons rfl (.pure rfl) (.cons rfl (.pure rfl) .nil))) rfl) (qF rfl rfl ty26 rfl rfl (qS rfl rfl rfl rfl rfl ty24 rfl rfl (Sl rfl) (Nl (Wq (Wq (qW 55 61 rfl rfl rfl (qG rfl rfl rfl ty26 rfl (Tl rfl) (qG rfl rfl rfl ty26 rfl (Tl rfl) (qG rfl rfl rfl ty26 rfl (Tl rfl) (Od rfl rfl (LO.buildSlice rfl ty39 ty26 (by decide) (by decide) (.cons rfl rfl rfl rfl (Sl rfl) (.cons rfl rfl rfl rfl (Sl rfl) (.cons rfl rfl rfl rfl (Sl rfl) .nil)))) (Od rfl rfl (LO.len rfl rfl ty39) (qM rfl rfl (Nl (Wy (t:=52) rfl rfl (Tl rfl) rfl (Wb (W.loop_keep (α:=Nat) (fun x=>3 - x) 1 (fun x=>[(13,.own 0 0),(54,.base (.int .i64 (x:Int)))]) (fun x=>up mt 0 (some ([.base (.int .i64 P.id),.base (.int .i64 (g P.id)),.base (.int .i64 P.sw),.isl (macsC P.macs) P.macs.length,.isl (adsC (ad1 P.v4)) (ad1 P.v4).length,.isl (adsC (ad1 P.v6)) (ad1 P.v6).length,.base (.int .i64 2),.base (.int .i64 3)]))) (fun x=>x≤3) 0 [(0,27)] (.cons (t:=2) rfl (by first|exact .inl rfl|exact .inr ⟨rfl,fun _ h=>by cases h⟩|(exact .inl (by assumption)) ) (.cons (t:=11) rfl (by first|exact .inl rfl|exact .inr ⟨rfl,fun _ h=>by cases h⟩|(exact .inl (by assumption)) ) (.cons (t:=12) rfl (by first|exact .inl rfl|exact .inr ⟨rfl,fun _ h=>by cases h⟩|(exact .inl (by assumption)) ) (.cons (t:=52) rfl (by first|exact .inl rfl|exact .inr ⟨rfl,fun _ h=>by cases h⟩|(exact .inl (by assumption)) ) (.cons (t:=53) rfl (by first|exact .inl rfl|exact .inr ⟨rfl,fun _ h=>by cases h⟩|(exact .inl (by assumption)) ) .nil))))) (show 0≤3 from Nat.zero_le _) (by decide) ?_ ?_ ?_))))))))))))))))))))))))))))
    · (repeat' (first|exact LookR.nil|refine LookR.cons ?_ ?_))<;>first|exact .inl ⟨rfl,rfl⟩|exact .inr ⟨rfl,fun _ h=>by cases h⟩|exact .inl ⟨rfl,by first|rfl|assumption ⟩
    · (repeat' (first|exact all_mt|refine all_up ?_ ?_))<;>first|exact ⟨rfl,_,rfl,.inr ⟨rfl,rfl⟩⟩|exact ⟨rfl,_,rfl,.inl rfl⟩|exact ⟨rfl,_,rfl,.inr ⟨rfl,by first|rfl|assumption ⟩⟩
    rintro i hIA ihA
    try (dsimp only at hIA)
    try dsimp only [baseT,List.cons_append,List.nil_append]
    by_cases hc:i < 3
    · have g1:decide ((i:Int) < 3)=true:=decide_eq_true (by omega)
      have hx:=hall i hc
      have hxt:=htk i hc
      generalize ([(⟨[p0,p1,p2,p3,p4,p5],[q0,q1,q2,q3,q4,q5],rv,rt,rx⟩:Fr),⟨[d0,d1,d2,d3,d4,d5],[s0,s1,s2,s3,s4,s5],fv,ft,fx⟩,⟨[d0,d1,d2,d3,d4,d5],[s0,s1,s2,s3,s4,s5],fv,ft,L⟩].getD i ⟨[p0,p1,p2,p3,p4,p5],[q0,q1,q2,q3,q4,q5],rv,rt,rx⟩)=x at *
      have h5:=hx.ok.d6
      have h6:=hx.ok.s6
      have ha1:=asks_any x hx.ok
      have ha2:=asksX_any x hx
      unfold asksV at ha1 ha2
      generalize asksF x=ak at *
      obtain ⟨aa,ak⟩:=ak
      dsimp only at ha1 ha2
      have n0:(!eqA aa aa)=false:=by rw [eqA_iff.2 rfl];rfl
      have n1:(!(ak == ak))=false:=by simp
      have hd1:=fun p=>deliver_any rs bs p x htab hx.ok
      have hd2:=fun p=>deliverX_any rs bs p x htab hx
      have hdk:=fun p=>dlvF_ok (rs:=rs) (bs:=bs) (fm:=p) htab hx
      generalize hdf:(fun p=>dlvF rs bs p x)=df
      have hdf1:∀ p,dlvF rs bs p x=df p:=fun p=>by rw [← hdf]
      simp only [hdf1] at hd1 hd2 hdk
      clear hdf hdf1
      obtain ⟨xd,xs,xv,xt,xx⟩:=x
      dsimp only at h5 h6
      obtain ⟨b0,b1,b2,b3,b4,b5,rfl⟩:=six_of h5
      obtain ⟨c0,c1,c2,c3,c4,c5,rfl⟩:=six_of h6
      refine Wq (qW 65 66 rfl rfl rfl (qK rfl rfl rfl (Nl (Wq (Wt rfl ‹_› (Wk (Wq (Wb (Wq (qW 70 74 rfl rfl rfl (qJ rfl rfl rfl rfl rfl ty39 ty26 (by first|omega|decide|assumption|(simp;done)|(simp;omega)) (Od rfl rfl (Lg rfl rfl ty26 rfl hxt) (qB rfl ty26 (qS rfl rfl rfl rfl rfl ty26 rfl rfl (Sl rfl) (Nl (Wq (qW 78 86 rfl rfl rfl (qG rfl rfl rfl ty26 rfl (Tl rfl) (Od rfl rfl (C0 (fr:=[]) rfl rfl (ha1) fok8 (.cons rfl (.pure rfl) .nil) rfl) (qM rfl rfl (qX rfl rfl rfl (qX rfl rfl rfl (qB rfl ty42 (qS rfl rfl rfl rfl rfl ty42 rfl rfl (Sl rfl) (qA rfl rfl (Nl (Wq (qW 90 98 rfl rfl rfl (qG rfl rfl rfl ty26 rfl (Tl rfl) (Od rfl rfl (C0 (fr:=[]) rfl rfl (ha2) fok9 (.cons rfl (.pure rfl) .nil) rfl) (qM rfl rfl (qX rfl rfl rfl (qX rfl rfl rfl (qB rfl ty42 (qS rfl rfl rfl rfl rfl ty42 rfl rfl (Sl rfl) (qA rfl rfl (Nl (Wq (Wq (qW 102 113 rfl rfl rfl (qG rfl rfl rfl ty42 rfl (Tl rfl) (qG rfl rfl rfl ty42 rfl (Tl rfl) (Od rfl rfl (LO.neq_ad aa aa rfl rfl rfl) (qM rfl rfl (Sd rfl rfl rfl ‹_› rfl (qP rfl rfl ‹_› rfl (qM rfl rfl (Gd rfl rfl rfl rfl rfl (Mv rfl rfl) (Gd rfl rfl rfl rfl rfl (Mv rfl rfl) (Gd rfl rfl rfl rfl rfl (LO.neq_bool rfl rfl rfl ty4) (qP rfl rfl rfl rfl (Nl (Wf rfl ‹_› (Wk (Wq (qW 122 128 rfl rfl rfl (qM rfl rfl (qF rfl rfl ty35 rfl rfl (qL rfl rfl rfl rfl ty3 rfl (Od rfl rfl (LO.buildSlice rfl ty27 ty3 (by decide) (by decide) (.cons rfl rfl rfl rfl (Sl rfl) (.cons rfl rfl rfl rfl (Sl rfl) .nil))) (Od rfl rfl (LO.len rfl rfl ty27) (qM rfl rfl (Nl (Wy (t:=82) rfl rfl (Tl rfl) rfl (Wb (W.loop_keep (α:=Nat) (fun x=>2 - x) 2 (fun x=>[(13,.own 0 0),(17,.own 1 0),(84,.base (.int .i64 (x:Int)))]) (fun x=>up (up mt 0 (some ([.base (.int .i64 P.id),.base (.int .i64 (g P.id)),.base (.int .i64 P.sw),.isl (macsC P.macs) P.macs.length,.isl (adsC (ad1 P.v4)) (ad1 P.v4).length,.isl (adsC (ad1 P.v6)) (ad1 P.v6).length,.base (.int .i64 2),.base (.int .i64 3)]))) 1 (some (frC ⟨[b0,b1,b2,b3,b4,b5],[c0,c1,c2,c3,c4,c5],xv,xt,xx⟩))) (fun x=>x≤2) 0 [(0,0),(1,72)] (.cons (t:=2) rfl (by first|exact .inl rfl|exact .inr ⟨rfl,fun _ h=>by cases h⟩|(exact .inl (by assumption)) ) (.cons (t:=11) rfl (by first|exact .inl rfl|exact .inr ⟨rfl,fun _ h=>by cases h⟩|(exact .inl (by assumption)) ) (.cons (t:=12) rfl (by first|exact .inl rfl|exact .inr ⟨rfl,fun _ h=>by cases h⟩|(exact .inl (by assumption)) ) (.cons (t:=52) rfl (by first|exact .inl rfl|exact .inr ⟨rfl,fun _ h=>by cases h⟩|(exact .inl (by assumption)) ) (.cons (t:=53) rfl (by first|exact .inl rfl|exact .inr ⟨rfl,fun _ h=>by cases h⟩|(exact .inl (by assumption)) ) (.cons (t:=54) rfl (by first|exact .inl rfl|exact .inr ⟨rfl,fun _ h=>by cases h⟩|(exact .inl (by assumption)) ) (.cons (t:=82) rfl (by first|exact .inl rfl|exact .inr ⟨rfl,fun _ h=>by cases h⟩|(exact .inl (by assumption)) ) (.cons (t:=83) rfl (by first|exact .inl rfl|exact .inr ⟨rfl,fun _ h=>by cases h⟩|(exact .inl (by assumption)) ) .nil)))))))) (show 0≤2 from Nat.zero_le _) (by decide) ?_ ?_ ?_))))))))))))))))))))))))))))))))))))))))))))))))))))))))))))))))))
      · (repeat' (first|exact LookR.nil|refine LookR.cons ?_ ?_))<;>first|exact .inl ⟨rfl,rfl⟩|exact .inr ⟨rfl,fun _ h=>by cases h⟩|exact .inl ⟨rfl,by first|rfl|assumption ⟩
      · (repeat' (first|exact all_mt|refine all_up ?_ ?_))<;>first|exact ⟨rfl,_,rfl,.inr ⟨rfl,rfl⟩⟩|exact ⟨rfl,_,rfl,.inl rfl⟩|exact ⟨rfl,_,rfl,.inr ⟨rfl,by first|rfl|assumption ⟩⟩
      rintro j hIB ihB
      try (dsimp only at hIB)
      try dsimp only [baseT,List.cons_append,List.nil_append]
      by_cases hd:j < 2
      · have g2:decide ((j:Int) < 2)=true:=decide_eq_true (by omega)
        have hsl:([.base (.int .i64 fm),.base (.int .i64 P.id)]:List AV)[j * 1]?=some (.base (.int .i64 (if j=0 then fm else P.id))):=by
          match j,hd with
          | 0,_=>rfl
          | 1,_=>rfl
        have hd3:=hd1 (if j=0 then fm else P.id)
        have hd4:=hd2 (if j=0 then fm else P.id)
        have hk:=hdk (if j=0 then fm else P.id)
        generalize df (if j=0 then fm else P.id)=R at *
        generalize (if j=0 then fm else P.id)=p at *
        obtain ⟨to,⟨yd,ys,yv,yt,yx⟩,vv⟩:=R
        unfold dlvV at hd3 hd4
        dsimp only at hd3 hd4 hk
        have hsame:=same_refl _ hk
        have h7:=hk.d6
        have h8:=hk.s6
        dsimp only at h7 h8
        obtain ⟨e0,e1,e2,e3,e4,e5,rfl⟩:=six_of h7
        obtain ⟨f0,f1,f2,f3,f4,f5,rfl⟩:=six_of h8
        have n2:(to != to)=false:=by simp
        have n3:(vv != vv)=false:=by simp
        refine Wq (qW 132 133 rfl rfl rfl (qK rfl rfl rfl (Nl (Wq (Wt rfl ‹_› (Wk (Wq (Wb (Wq (qW 137 140 rfl rfl rfl (qJ rfl rfl rfl rfl rfl ty27 ty3 (by first|omega|decide|assumption|(simp;done)|(simp;omega)) (Od rfl rfl (Li rfl rfl hsl ty3 rfl) (qA rfl rfl (Nl (Wq (qW 144 157 rfl rfl rfl (qM rfl rfl (qM rfl rfl (qM rfl rfl (qG rfl rfl rfl ty26 rfl (Tl rfl) (Od rfl rfl (C0 (fr:=[]) rfl rfl (hd3) fok10 (.cons rfl (.pure rfl) (.cons rfl (.pure rfl) (.cons rfl (.pure rfl) (.cons rfl (.pure rfl) .nil)))) rfl) (qM rfl rfl (qX rfl rfl rfl (qX rfl rfl rfl (qX rfl rfl rfl (qB rfl ty26 (qA rfl rfl (qS rfl rfl rfl rfl rfl ty26 rfl rfl (Sl rfl) (qA rfl rfl (Nl (Wq (qW 161 174 rfl rfl rfl (qM rfl rfl (qM rfl rfl (qM rfl rfl (qG rfl rfl rfl ty26 rfl (Tl rfl) (Od rfl rfl (C0 (fr:=[]) rfl rfl (hd4) fok11 (.cons rfl (.pure rfl) (.cons rfl (.pure rfl) (.cons rfl (.pure rfl) (.cons rfl (.pure rfl) .nil)))) rfl) (qM rfl rfl (qX rfl rfl rfl (qX rfl rfl rfl (qX rfl rfl rfl (qB rfl ty26 (qA rfl rfl (qS rfl rfl rfl rfl rfl ty26 rfl rfl (Sl rfl) (qA rfl rfl (Nl (Wq (qW 178 192 rfl rfl rfl (qM rfl rfl (qM rfl rfl (qN rfl rfl rfl (qM rfl rfl (Gd rfl rfl rfl ‹_› rfl (La rfl rfl rfl ty26 rfl (Tl rfl)) (Gd rfl rfl rfl ‹_› rfl (La rfl rfl rfl ty26 rfl (Tl rfl)) (Gd rfl rfl rfl ‹_› rfl (C0 (fr:=[]) rfl rfl (hsame) fok12 (.cons rfl (.pure rfl) (.cons rfl (.pure rfl) .nil)) rfl) (Gd rfl rfl rfl ‹_› rfl (Nt rfl rfl) (qP rfl rfl ‹_› rfl (qM rfl rfl (Gd rfl rfl rfl rfl rfl (Mv rfl rfl) (Gd rfl rfl rfl rfl rfl (Mv rfl rfl) (Gd rfl rfl rfl rfl rfl (Ne0 rfl rfl rfl) (qP rfl rfl rfl rfl (Nl (Wf rfl ‹_› (Wk (qW 201 203 rfl rfl rfl (qZ rfl rfl rfl (by (first|exact IntWalk.i64_in _ (by omega)|assumption)) (qM rfl rfl (Nl (WL.renameL [(0,0),(1,1)] 2 (by decide) ?_ ?_ (ihB (j + 1) (show 2 - (j + 1) < 2 - j from by omega) (show (j + 1)≤2 from by omega))))))))))))))))))))))))))))))))))))))))))))))))))))))))))))))))))))))))
        · (repeat' (first|exact LookR.nil|refine LookR.cons ?_ ?_))<;>first|exact .inl ⟨rfl,rfl⟩|exact .inr ⟨rfl,fun _ h=>by cases h⟩|exact .inl ⟨rfl,by first|rfl|assumption ⟩
        · (repeat' (first|exact all_mt|refine all_up ?_ ?_))<;>first|exact ⟨rfl,_,rfl,.inr ⟨rfl,rfl⟩⟩|exact ⟨rfl,_,rfl,.inl rfl⟩|exact ⟨rfl,_,rfl,.inr ⟨rfl,by first|rfl|assumption ⟩⟩
      · have g2:decide ((j:Int) < 2)=false:=decide_eq_false (by omega)
        refine Wq (qW 132 133 rfl rfl rfl (qK rfl rfl rfl (Nl (Wq (Wf rfl ‹_› (Wx (qW 207 209 rfl rfl rfl (qZ rfl rfl rfl (by (first|exact IntWalk.i64_in _ (by omega)|assumption)) (qM rfl rfl (Nl (WL.renameL [(0,0)] 1 (by decide) ?_ ?_ (ihA (i + 1) (show 3 - (i + 1) < 3 - i from by omega) (show (i + 1)≤3 from by omega)))))))))))))
        · (repeat' (first|exact LookR.nil|refine LookR.cons ?_ ?_))<;>first|exact .inl ⟨rfl,rfl⟩|exact .inr ⟨rfl,fun _ h=>by cases h⟩|exact .inl ⟨rfl,by first|rfl|assumption ⟩
        · (repeat' (first|exact all_mt|refine all_up ?_ ?_))<;>first|exact ⟨rfl,_,rfl,.inr ⟨rfl,rfl⟩⟩|exact ⟨rfl,_,rfl,.inl rfl⟩|exact ⟨rfl,_,rfl,.inr ⟨rfl,by first|rfl|assumption ⟩⟩
    · have g1:decide ((i:Int) < 3)=false:=decide_eq_false (by omega)
      refine Wq (qW 65 66 rfl rfl rfl (qK rfl rfl rfl (Nl (Wq (Wf rfl ‹_› (Wx (Wq (qW 213 215 rfl rfl rfl (Od rfl rfl (C0 (fr:=[]) rfl rfl (hawk) fok5 .nil rfl) (qA rfl rfl (Nl (Wz ⟨.inl rfl,_,mt,Rc (Rt rfl) (Rn),all_mt,?_⟩))))))))))))
      exact ⟨rfl,rfl⟩
end Go.Proofs.YtcidmiacfjdepaaGreatDoor
