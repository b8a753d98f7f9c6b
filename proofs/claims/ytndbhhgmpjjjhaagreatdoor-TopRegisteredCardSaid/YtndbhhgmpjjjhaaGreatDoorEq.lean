/-
  The document's prefix of an address, as a number (plain): bits behind the length are cleared, nothing else changes. Whether an object covers a prefix: what the document says is what the program says. What a member may send is what the objects of its AS numbers permit. Small functions of databases: whether an address is none, all members in a row. The ports of a small database.
-/
import Derived.Test.YtndbhhgmpjjjhaaGreatDoorVt
import Derived.Test.YtndbhhgmpjjjhaaGreatDoorMab
import Derived.Test.YtndbhhgmpjjjhaaGreatDoorMj
import Derived.Test.YtndbhhgmpjjjhaaGreatDoorMn
import Derived.Test.YtndbhhgmpjjjhaaGreatDoorQf
namespace Go.Proofs.YtndbhhgmpjjjhaaGreatDoor
open Go.RowKit
theorem valI_set {l:List Int} {q:Nat} (v:Int) (h:q < l.length):valI (l.set q v)=valI l + (v - gB l q) * 256 ^ (l.length - 1 - q):=by
 have hg:gB l q=l[q]:=by simp [gB,h]
 have e1:l=l.take q++(l[q]::l.drop (q + 1)):=by rw [← List.drop_eq_getElem_cons h,List.take_append_drop]
 have e2:l.set q v=l.take q++(v::l.drop (q + 1)):=List.set_eq_take_append_cons_drop.trans (if_pos h)
 have hd:(l.drop (q + 1)).length=l.length - 1 - q:=by rw [List.length_drop];omega
 have key:∀ x:Int,valI (l.take q++(x::l.drop (q + 1)))=valI (l.take q) * 256 ^ (l.length - 1 - q + 1) + (x * 256 ^ (l.length - 1 - q) + valI (l.drop (q + 1))):=fun x=>by
  rw [valI_app,show x::l.drop (q + 1)=[x]++l.drop (q + 1) from rfl,valI_app [x],List.length_append,hd,show [x].length=1 from rfl,Nat.add_comm 1]
  have h1:valI [x]=x:=by simp [valI]
  rw [h1]
 have k2:=key l[q]
 rw [← e1] at k2
 rw [e2,key,hg,k2,Int.sub_mul]
 omega
theorem clr_dec:∀ (x:Fin 256) (t:Fin 8),bitV .andNot .u8 (x.val:Int) ((128:Int).fdiv (2 ^ t.val))≤(x.val:Int)∧(x.val:Int) - 2 ^ (7 - t.val)≤bitV .andNot .u8 (x.val:Int) ((128:Int).fdiv (2 ^ t.val)):=by decide +kernel
theorem pow_split {len q t:Nat} (hq:q < len) (ht:t < 8):(2:Int) ^ (7 - t) * 256 ^ (len - 1 - q)=2 ^ (8 * len - 1 - (8 * q + t)):=by
 rw [show (256:Int)=2 ^ 8 from rfl,← Int.pow_mul,← Int.pow_add]
 congr 1
 omega
theorem clr_val {l:List Int} (hB:IsB l) {i:Nat} (hi:i < 8 * l.length):valI (chgL .andNot l i)≤valI l∧valI l - 2 ^ (8 * l.length - 1 - i)≤valI (chgL .andNot l i):=by
 have hq:i / 8 < l.length:=by omega
 unfold chgL
 rw [valI_set _ hq,bitAt_eq]
 have hx:=hB (l[i / 8]) (List.getElem_mem hq)
 have hg:gB l (i / 8)=l[i / 8]:=by simp [gB,hq]
 obtain ⟨x,hx2⟩:∃ x:Nat,gB l (i / 8)=(x:Int):=⟨(gB l (i / 8)).toNat,by rw [hg];omega⟩
 rw [hx2]
 have hx3:x < 256:=by rw [hg] at hx2;omega
 obtain ⟨h1,h2⟩:=clr_dec ⟨x,hx3⟩ ⟨i % 8,Nat.mod_lt _ (by decide)⟩
 dsimp only at h1 h2
 have hp:=pow_split hq (Nat.mod_lt i (by decide:0 < 8))
 rw [show 8 * (i / 8) + i % 8=i from by omega] at hp
 have hpos:(0:Int)≤256 ^ (l.length - 1 - i / 8):=Int.pow_nonneg (by decide)
 generalize bitV .andNot .u8 (x:Int) ((128:Int).fdiv (2 ^ (i % 8)))=y at h1 h2
 rw [← hp]
 generalize (256:Int) ^ (l.length - 1 - i / 8)=c at hpos
 generalize (2:Int) ^ (7 - i % 8)=d at h2
 have a1:(y - (x:Int)) * c≤0:=Int.mul_nonpos_of_nonpos_of_nonneg (by omega) hpos
 have a2:-(d * c)≤(y - (x:Int)) * c:=by
  rw [← Int.neg_mul]
  exact Int.mul_le_mul_of_nonneg_right (by omega) hpos
 omega
theorem clrs_val {l:List Int} (hB:IsB l) (n:Nat):∀ k,n + k≤8 * l.length→valI (chgs .andNot l n k)≤valI l∧valI l - (2 ^ (8 * l.length - n) - 2 ^ (8 * l.length - n - k))≤valI (chgs .andNot l n k):=by
 intro k
 induction k with
 | zero =>
  intro _
  refine ⟨Int.le_refl _,?_⟩
  show valI l - (_ - _)≤valI l
  rw [Nat.sub_zero]
  omega
 | succ k ih =>
  intro h
  obtain ⟨h1,h2⟩:=ih (by omega)
  have hl:=chgs_len .andNot l n k
  obtain ⟨h3,h4⟩:=clr_val (chgs_isB .andNot l n k hB) (i:=n + k) (by rw [hl];omega)
  rw [hl] at h4
  rw [chgs_snoc]
  have e:(2:Int) ^ (8 * l.length - n - k)=2 * 2 ^ (8 * l.length - n - (k + 1)):=by
   rw [show 8 * l.length - n - k=8 * l.length - n - (k + 1) + 1 from by omega,Int.pow_succ,Int.mul_comm]
  rw [show 8 * l.length - 1 - (n + k)=8 * l.length - n - (k + 1) from by omega] at h4
  omega
theorem div_nat {x y K:Nat} (hy:y < 2 ^ 64):x / 2 ^ (K - 64) * 2 ^ (K - 64) * 2 ^ 64 + y / 2 ^ (min K 64) * 2 ^ (min K 64)=(x * 2 ^ 64 + y) / 2 ^ K * 2 ^ K:=by
 rcases Nat.le_total K 64 with h|h
 ·rw [show K - 64=0 from by omega,Nat.min_eq_left h,Nat.pow_zero,Nat.div_one,Nat.mul_one]
  have e:x * 2 ^ 64=x * 2 ^ (64 - K) * 2 ^ K:=by rw [Nat.mul_assoc,← Nat.pow_add,show 64 - K + K=64 from by omega]
  rw [e,Nat.add_comm (x * 2 ^ (64 - K) * 2 ^ K) y,Nat.add_mul_div_right _ _ (Nat.two_pow_pos K),Nat.add_mul]
  omega
 ·rw [Nat.min_eq_right h,Nat.div_eq_of_lt hy,Nat.zero_mul,Nat.add_zero]
  have e:2 ^ K=2 ^ 64 * 2 ^ (K - 64):=by rw [← Nat.pow_add,show 64 + (K - 64)=K from by omega]
  have e2:(x * 2 ^ 64 + y) / 2 ^ 64=x:=by
   rw [Nat.add_comm,Nat.add_mul_div_right _ _ (Nat.two_pow_pos 64),Nat.div_eq_of_lt hy,Nat.zero_add]
  rw [e,← Nat.div_div_eq_div_mul,e2,Nat.mul_assoc,Nat.mul_comm (2 ^ (K - 64)) (2 ^ 64)]
theorem cast64 (p q:Nat):((p * 2 ^ 64 + q:Nat):Int)=(p:Int) * 18446744073709551616 + (q:Int):=by
 rw [Int.natCast_add,Int.natCast_mul];rfl
theorem mk_eq {a:Ad} {n:Nat} (hv:validA a.v6 a.hi a.lo=true) (h1:U64 a.hi) (h2:U64 a.lo) (hn:(n:Int)≤widthA a):(mkP a n).ad=clrA a ((widthA a).toNat - n):=by
 have hln:=addrL_len a
 have hw:widthA a=8 * ((addrL a).length:Int):=by
  unfold widthA
  rw [hln]
  cases a.v6<;>rfl
 have hl16:(addrL a).length≤16:=by rw [hln];cases a.v6<;>simp
 have hB0:=addrL_isB a
 have hB:IsB (mkL .andNot a n):=chgs_isB _ _ _ _ hB0
 have hlen:(mkL .andNot a n).length=(addrL a).length:=chgs_len _ _ _ _
 have hf:=fb_full hB (by omega)
 have hf0:=fb_full hB0 (by omega)
 have hfa:fb (addrL a)=(a.hi,a.lo):=fb_addrB hv h1 h2
 rw [hfa] at hf0
 obtain ⟨b1,b2⟩:=fb_bd (mkL .andNot a n)
 have hbits:∀ j,n≤j→j < 8 * (mkL .andNot a n).length→bitL (mkL .andNot a n) j=0:=fun j h1 h2=>clr_all hB0 n (8 * (addrL a).length - n) (by omega) j h1 (by rw [hlen] at h2;omega)
 obtain ⟨z,hz⟩:=low_val hB (n:=n) (by rw [hlen];omega) hbits
 obtain ⟨v1,v2⟩:=clrs_val hB0 n (8 * (addrL a).length - n) (by omega)
 rw [show chgs .andNot (addrL a) n (8 * (addrL a).length - n)=mkL .andNot a n from rfl] at v1 v2
 rw [Nat.sub_self,Int.pow_zero] at v2
 rw [hlen] at hz
 have hk:(widthA a).toNat - n=8 * (addrL a).length - n:=by omega
 rw [hk]
 obtain ⟨K,hK⟩:∃ K,8 * (addrL a).length - n=K:=⟨_,rfl⟩
 have hK2:K≤128:=by omega
 rw [hK] at hz v2 ⊢
 have hV':=valI_bd hB
 obtain ⟨x,hx⟩:=Int.eq_ofNat_of_zero_le h1.1
 obtain ⟨y,hy⟩:=Int.eq_ofNat_of_zero_le h2.1
 have hx64:x < 2 ^ 64:=by have:=h1.2;omega
 have hy64:y < 2 ^ 64:=by have:=h2.2;omega
 have hp:((2 ^ K:Nat):Int)=(2:Int) ^ K:=by simp
 have hp0:0 < 2 ^ K:=Nat.two_pow_pos K
 have hz0:0≤z:=by
  rcases Int.lt_or_le z 0 with h|h
  ·have:z * 2 ^ K < 0:=Int.mul_neg_of_neg_of_pos h (by rw [← hp];omega)
   omega
  ·exact h
 obtain ⟨zn,rfl⟩:=Int.eq_ofNat_of_zero_le hz0
 have hznk:((zn * 2 ^ K:Nat):Int)=(zn:Int) * 2 ^ K:=by rw [Int.natCast_mul,hp]
 rw [← hznk] at hz
 rw [← hp] at v2
 have hVn:((x * 2 ^ 64 + y:Nat):Int)=valI (addrL a):=by
  rw [← hf0]
  show ((x * 2 ^ 64 + y:Nat):Int)=a.hi * 18446744073709551616 + a.lo
  rw [hx,hy]
  omega
 have hdiv:(x * 2 ^ 64 + y) / 2 ^ K * 2 ^ K=zn * 2 ^ K:=by
  have hr:x * 2 ^ 64 + y - zn * 2 ^ K < 2 ^ K:=by omega
  have he:x * 2 ^ 64 + y=(x * 2 ^ 64 + y - zn * 2 ^ K) + zn * 2 ^ K:=by omega
  rw [he,Nat.add_mul_div_right _ _ hp0,Nat.div_eq_of_lt hr,Nat.zero_add]
 have hnat:=div_nat (x:=x) (K:=K) hy64
 rw [hdiv] at hnat
 have hc:clrA a K=⟨a.v6,((x / 2 ^ (K - 64) * 2 ^ (K - 64):Nat):Int),((y / 2 ^ (min K 64) * 2 ^ (min K 64):Nat):Int)⟩:=by
  unfold clrA mskH mskL
  rw [hx,hy,andNotU x _ hx64 (by omega),andNotU y _ hy64 (by omega)]
 rw [hc]
 have hlo:y / 2 ^ (min K 64) * 2 ^ (min K 64)≤y:=Nat.div_mul_le_self _ _
 generalize x / 2 ^ (K - 64) * 2 ^ (K - 64)=p at hnat
 generalize y / 2 ^ (min K 64) * 2 ^ (min K 64)=q at hnat hlo
 unfold U64 at b1 b2
 have hfin:(fb (mkL .andNot a n)).1 * 18446744073709551616 + (fb (mkL .andNot a n)).2=(p:Int) * 18446744073709551616 + (q:Int):=by
  rw [hf,hz,← hnat,cast64]
 show (⟨a.v6,(fb (mkL .andNot a n)).1,(fb (mkL .andNot a n)).2⟩:Ad)=⟨a.v6,(p:Int),(q:Int)⟩
 have g1:(fb (mkL .andNot a n)).1=(p:Int):=by omega
 have g2:(fb (mkL .andNot a n)).2=(q:Int):=by omega
 rw [g1,g2]
theorem containsX_bad (p:Pre) (a:Ad) (hv:validA a.v6 a.hi a.lo=true) (hn:p.len < 0∨widthA a < p.len):AFn Tryz.prog 18 0 [.agg (preC p),.agg (adC a)] mt (.base (.bool false)) mt:=by
 refine AFn.eq Tryz.func18 rfl rfl (Nat.le_of_ble_eq_true rfl) ?_
 have hm:=mkbad_any a p.len hv hn
 obtain ⟨b,l⟩:=p
 dsimp only at hm
 refine Wq<|qW 0 3 rfl<|qC rfl<|qC rfl<|qA rfl<|Nl<|Wq<|qW 7 17 rfl<|qG rfl ty34 rfl (Tl rfl)<|qF rfl ty36 rfl<|qL rfl ty3 rfl<|qY rfl (hm) fok11 rfl<|qM rfl<|qX rfl<|qX rfl<|qB rfl ty36<|qS rfl ty36 (Sl rfl) rfl<|qA rfl<|Nl<|Wq<|qW 21 29 rfl<|qM rfl<|qE rfl<|qM rfl<|qD rfl rfl rfl<|qD rfl rfl rfl<|qD rfl rfl rfl<|qP rfl rfl rfl<|qA rfl<|Nl<|Wz ⟨.inl rfl,_,mt,(Rc (Rt0 rfl) Rv),aM,?_⟩
 exact ⟨rfl,rfl⟩
theorem cont_all (p q:Pre) (hp:PreOk p) (hq:PreOk q):∃ c:Bool,AFn Tryz.prog 18 0 [.agg (preC p),.agg (adC q.ad)] mt (.base (.bool c)) mt∧(c && decide (p.len≤q.len))=cvP p q:=by
 have hge:=hp.ge
 obtain ⟨n,hn⟩:∃ n:Nat,p.len=(n:Int):=⟨p.len.toNat,by omega⟩
 have hqle:=hq.le
 by_cases hw:(n:Int)≤widthA q.ad
 ·refine ⟨_,containsX_any p q.ad n hn hq.val hq.hi hq.lo hw,?_⟩
  have e:=mk_eq hq.val hq.hi hq.lo hw
  unfold cvP hasP
  have e2:eqPre (mkP q.ad n) p=(p.ad.v6 == q.ad.v6 && eqA (clrA q.ad ((widthA q.ad).toNat - p.len.toNat)) p.ad):=by
   unfold eqPre
   rw [e,hn,show ((n:Int)).toNat=n from by omega]
   show (eqA _ _ && ((n:Int) == (n:Int)))=_
   rw [show ((n:Int) == (n:Int))=true from by simp,Bool.and_true]
   cases hv:(p.ad.v6 == q.ad.v6) with
   | true=>rfl
   | false =>
    unfold eqA clrA
    have:(q.ad.v6 == p.ad.v6)=false:=by rw [← hv];cases p.ad.v6<;>cases q.ad.v6<;>rfl
    simp [this]
  rw [e2,Bool.and_comm]
 ·refine ⟨false,containsX_bad p q.ad hq.val (.inr (by omega)),?_⟩
  unfold cvP
  rw [show decide (q.len ≥ p.len)=false from decide_eq_false (by omega)]
  rfl
def nmS:Nat→ByteArray
 | 0=>⟨#[]⟩
 | 1=>asN 0
 | _=>asN 1
def nm3:List AV:=[.base (.string ⟨#[]⟩),.base (.string ⟨#[65,83,45,65]⟩),.base (.string ⟨#[65,83,45,66]⟩)]
theorem nm3_at {k:Nat} (h:k < 3):nm3[0 + k * 1]?=some (.base (.string (nmS k))):=by
 match k,h with
 | 0,_=>rfl
 | 1,_=>rfl
 | 2,_=>rfl
theorem nmS_ne {k:Nat} (h:0 < k) (h3:k < 3):(!((nmS k).toList == (⟨#[]⟩:ByteArray).toList))=true:=by
 match k,h,h3 with
 | 1,_,_=>decide +kernel
 | 2,_,_=>decide +kernel
def inF (p:Pre) (og:Int) (o:ObjR):Bool:=(o.asn == og) && cvP o.p p
def ftF (p:Pre) (og:Int) (o:ObjR):Bool:=inF p og o && decide (p.len≤o.mx)
theorem inF_iff {p:Pre} {og:Int} {o:ObjR}:inF p og o=true↔o.asn=og∧cvP o.p p=true:=by unfold inF;simp
theorem ftF_iff {p:Pre} {og:Int} {o:ObjR}:ftF p og o=true↔o.asn=og∧cvP o.p p=true∧p.len≤o.mx:=by unfold ftF inF;simp [and_assoc]
theorem five (p:Pre) (og:Int) (as_:List Int) (os:List ObjR):(decide (og∈as_)=false∧pmtV p og as_ os=17)∨(decide (og∈as_)=true∧os.any (ftF p og)=true∧pmtV p og as_ os=0)∨(decide (og∈as_)=true∧os.any (ftF p og)=false∧os.any (inF p og)=true∧pmtV p og as_ os=9)∨(decide (og∈as_)=true∧os.any (ftF p og)=false∧os.any (inF p og)=false∧(pmtV p og as_ os=7∨pmtV p og as_ os=11)):=by
 by_cases ho:og∈as_
 rotate_left
 ·exact .inl ⟨decide_eq_false ho,if_neg ho⟩
 have e:pmtV p og as_ os=prmK cvP p og 11 7 9 os 11:=if_pos ho
 rw [prmK_spec (by decide) (by decide) (by decide) os 11 (.inl rfl)] at e
 have f1:os.any (ftF p og)=true↔∃ o∈os,o.asn=og∧cvP o.p p=true∧p.len≤o.mx:=by
  rw [List.any_eq_true];exact exists_congr fun o=>and_congr_right fun _=>ftF_iff
 have f2:os.any (inF p og)=true↔∃ o∈os,o.asn=og∧cvP o.p p=true:=by
  rw [List.any_eq_true];exact exists_congr fun o=>and_congr_right fun _=>inF_iff
 refine .inr ?_
 by_cases h1:∃ o∈os,o.asn=og∧cvP o.p p=true∧p.len≤o.mx
 ·rw [if_pos h1] at e
  exact .inl ⟨decide_eq_true ho,f1.2 h1,e⟩
 rw [if_neg h1] at e
 have g1:os.any (ftF p og)=false:=by
  cases h:os.any (ftF p og) with
  | false=>rfl
  | true=>exact absurd (f1.1 h) h1
 by_cases h2:∃ o∈os,o.asn=og∧cvP o.p p=true
 ·rw [if_pos (.inr h2)] at e
  exact .inr (.inl ⟨decide_eq_true ho,g1,f2.2 h2,e⟩)
 have g2:os.any (inF p og)=false:=by
  cases h:os.any (inF p og) with
  | false=>rfl
  | true=>exact absurd (f2.1 h) h2
 rw [if_neg (fun h=>h.elim (fun h=>by cases h) h2)] at e
 refine .inr (.inr ⟨decide_eq_true ho,g1,g2,?_⟩)
 rw [e]
 split
 ·exact .inl rfl
 ·exact .inr rfl
theorem any_s1 (f:ObjR→Bool) {l:List ObjR} {k:Nat} (h:k < l.length):(l.take (k + 1)).any f=((l.take k).any f || f l[k]):=by
 rw [take_s1 h,List.any_append];simp
set_option maxHeartbeats 8000000 in
theorem registered_law (haw:AFn Tryz.prog 15 0 [] mt (.base (.bool true)) mt) (l:List Int) (asn0 og0:Int) (hl:l.length≤9223372036854775807):AFn Tryz.prog 4 0 [.isl (l.map fun z=>.base (.int .i64 z)) l.length,.base (.int .i64 asn0),.base (.int .i64 og0)] mt (.base (.bool true)) mt:=by
 refine AFn.eq Tryz.func4 rfl rfl (Nat.le_of_ble_eq_true rfl) ?_
 have hnew:=new_any l
 obtain ⟨v,H',hreg,ss,os,a0,⟨hss,hos⟩,rfl,rfl⟩:=registry_any l 0 hl
 have hmd1:=mod_any asn0 7 (by decide) (by decide)
 have hmd2:=mod_any og0 7 (by decide) (by decide)
 obtain ⟨asn,ha⟩:∃ asn,asn0 % 7=asn:=⟨_,rfl⟩
 obtain ⟨og,ho⟩:∃ og,og0 % 7=og:=⟨_,rfl⟩
 rw [ha] at hmd1
 rw [ho] at hmd2
 obtain ⟨_,_,hpre,p0,a1,hp0,rfl,rfl⟩:=dprefix_any l a0 hl
 have hol:=hos.len
 have hreg0:=hreg
 unfold regC at hreg
 obtain ⟨x,a2,bx,hx⟩:=nextC l a1 3 (by decide) (by decide) hl
 refine Wq<|qW 0 1 rfl<|qA rfl<|Nl<|Wq<|qW 5 8 rfl<|qM rfl<|Od rfl rfl (CN (fr:=[]) rfl rfl (hnew) fok5 (.cons rfl (.pure rfl) .nil) rfl (by decide))<|qA rfl<|Nl<|Wq<|qW 12 16 rfl<|qM rfl<|Od rfl rfl (C1 (fr:=[]) rfl rfl (hreg) fok6 (.own rfl rfl .nil) rfl rfl rfl (Cn _ _) (by decide) rfl)<|qB rfl ty28<|qS rfl ty28 (Sl rfl) rfl<|Nl<|Wq<|qW 20 24 rfl<|qM rfl<|Od rfl rfl (C1 (fr:=[]) rfl rfl (hpre) fok10 (.own rfl rfl .nil) rfl rfl rfl (Cn _ _) (by decide) rfl)<|qB rfl ty36<|qS rfl ty36 (Sl rfl) rfl<|Nl<|Wq<|W.joinK (α:=Pre × Nat) 3 (fun x=>[(1,.base (.int .i64 asn0)),(2,.base (.int .i64 og0)),(7,.own 0 0),(8,.own 1 0),(9,.own 2 0)]) (fun x=>up (up (up mt 0 (some (deckC l x.2))) 1 (some ([.isl (setsC ss) ss.length,.isl (objsC os) os.length]))) 2 (some (preC x.1))) (fun x=>PreOk x.1) .nil ?_ ?_
 rotate_left
 rintro ⟨p,b⟩ hIJ
 try (dsimp only at hIJ)
 try dsimp only [joinT,baseT,List.cons_append,List.nil_append]
 rotate_right
 ·
  by_cases h0:0 < os.length
  rotate_left
  ·have g1:decide ((os.length:Int) > 0)=false:=decide_eq_false (by omega)
   refine Wq<|qW 28 37 rfl<|qF rfl ty28 rfl<|qL rfl ty26 rfl<|qH rfl ty26<|qGt rfl<|qM rfl<|qD rfl ‹_› rfl<|qD rfl ‹_› rfl<|qD rfl ‹_› rfl<|qP rfl ‹_› rfl<|Nl<|Wo rfl rfl<|Wu ?_
   intro yJ KJ hJ
   refine W.renameJ [(0,6),(1,14),(2,22)] 3 (by decide) ?_ ?_ (hJ (p0,a1) (show PreOk p0 from hp0))
   ·exact lC (lR rfl) (lC (lR rfl) (lC (lI rfl) (lC (lI rfl) (lC (lI rfl) lN))))
   ·exact aU (kR rfl) (aU (kR rfl) (aU (kR rfl) aM))
  have g1:decide ((os.length:Int) > 0)=true:=decide_eq_true (by omega)
  by_cases hx0:0 < x
  rotate_left
  ·have g2:decide ((x:Int) > 0)=false:=decide_eq_false (by omega)
   refine Wq<|qW 28 37 rfl<|qF rfl ty28 rfl<|qL rfl ty26 rfl<|qH rfl ty26<|qGt rfl<|qM rfl<|gM rfl ‹_›<|qU rfl ‹_› rfl (C1 (fr:=[]) rfl rfl (hx) fok12 (.own rfl rfl (.cons rfl (.pure rfl) .nil)) rfl rfl rfl (Cn _ _) (by decide) rfl)<|gGt rfl ‹_›<|qT rfl ‹_› rfl<|Nl<|Wo rfl ‹_›<|Wu ?_
   intro yJ KJ hJ
   refine W.renameJ [(0,6),(1,14),(2,22)] 3 (by decide) ?_ ?_ (hJ (p0,a2) (show PreOk p0 from hp0))
   ·exact lC (lR rfl) (lC (lR rfl) (lC (lI rfl) (lC (lI rfl) (lC (lI rfl) lN))))
   ·exact aU (kR rfl) (aU (kR rfl) (aU (kR rfl) aM))
  have g2:decide ((x:Int) > 0)=true:=decide_eq_true (by omega)
  obtain ⟨y,a3,by_,hy⟩:=nextC l a2 (os.length:Int) (by omega) (by omega) hl
  have hyl:y < os.length:=by omega
  have hot:=objs_tk hyl
  have hok:=hos.ok os[y] (List.getElem_mem hyl)
  obtain ⟨o,hoe⟩:∃ o,os[y]=o:=⟨_,rfl⟩
  rw [hoe] at hot hok
  obtain ⟨z,a4,bz,hz⟩:=nextC l a3 2 (by decide) (by decide) hl
  obtain ⟨q,e,hmk,hqe⟩:=make_all o.p.ad (o.mx + (z:Int)) hok.p.val hok.p.hi hok.p.lo
  have hge:=hok.ge
  have hle:=hok.le
  refine Wq<|qW 28 37 rfl<|qF rfl ty28 rfl<|qL rfl ty26 rfl<|qH rfl ty26<|qGt rfl<|qM rfl<|gM rfl ‹_›<|qU rfl ‹_› rfl (C1 (fr:=[]) rfl rfl (hx) fok12 (.own rfl rfl (.cons rfl (.pure rfl) .nil)) rfl rfl rfl (Cn _ _) (by decide) rfl)<|gGt rfl ‹_›<|qT rfl ‹_› rfl<|Nl<|Wt rfl ‹_›<|Wq<|Wd 41 52 (by decide) rfl mixed rfl<|qF rfl ty28 rfl<|qL rfl ty26 rfl<|qM rfl<|qF rfl ty28 rfl<|qL rfl ty26 rfl<|qH rfl ty26<|Od rfl rfl (C1 (fr:=[]) rfl rfl (hy) fok12 (.own rfl rfl (.cons rfl (.pure rfl) .nil)) rfl rfl rfl (Cn _ _) (by decide) rfl)<|qJ rfl rfl ty26 ty38 (by omega)<|Od rfl rfl (Lg rfl rfl ty38 rfl hot)<|qB rfl ty38<|qS rfl ty38 (Sl rfl) rfl<|Nl ⟨by kernel_rfl,(Wq<|Wd 56 71 (by decide) rfl mixed rfl<|qF rfl ty38 rfl<|qF rfl ty36 rfl<|qG rfl ty34 rfl (Tl rfl)<|qF rfl ty38 rfl<|qL rfl ty3 rfl<|qM rfl<|Od rfl rfl (C1 (fr:=[]) rfl rfl (hz) fok12 (.own rfl rfl (.cons rfl (.pure rfl) .nil)) rfl rfl rfl (Cn _ _) (by decide) rfl)<|qZ rfl (iW _ (by omega))<|qY rfl (hmk) fok11 rfl<|qM rfl<|qX rfl<|qX rfl<|qB rfl ty36<|qS rfl ty36 (Sl rfl) rfl<|qA rfl<|Nl ⟨by kernel_rfl,?_⟩)⟩
  rcases hqe with ⟨rfl,hq,_⟩|rfl
  case' inl =>
   refine Wq<|qW 75 77 rfl<|qM rfl<|qE rfl<|Nl<|Wt rfl rfl<|qW 81 83 rfl<|qG rfl ty36 rfl (Tl rfl)<|qS rfl ty36 (Sl rfl) rfl<|Nl ?_
   intro yJ KJ hJ
   refine W.renameJ [(0,6),(1,14),(2,22)] 3 (by decide) ?_ ?_ (hJ (q,a4) (show PreOk q from hq))
   ·exact lC (lR rfl) (lC (lR rfl) (lC (lI rfl) (lC (lI rfl) (lC (lI rfl) lN))))
   ·exact aU (kR rfl) (aU (kR rfl) (aU (kR rfl) aM))
  case' inr =>
   refine Wq<|qW 75 77 rfl<|qM rfl<|qE rfl<|Nl<|Wo rfl rfl<|Wu ?_
   intro yJ KJ hJ
   refine W.renameJ [(0,6),(1,14),(2,22)] 3 (by decide) ?_ ?_ (hJ (p0,a4) (show PreOk p0 from hp0))
   ·exact lC (lR rfl) (lC (lR rfl) (lC (lI rfl) (lC (lI rfl) (lC (lI rfl) lN))))
   ·exact aU (kR rfl) (aU (kR rfl) (aU (kR rfl) aM))
 have hpok:=hIJ
 refine Wq<|qW 87 93 rfl<|qM rfl<|qY rfl (hmd1) fok7 rfl<|qM rfl<|qY rfl (hmd2) fok7 rfl<|qA rfl<|qA rfl<|Nl<|Wq<|Wq<|qW 97 100 rfl<|Od rfl rfl (LO.buildSlice rfl ty55 ty9 (by decide) (by decide) (.cons rfl rfl rfl rfl (Sl rfl) (.cons rfl rfl rfl rfl (Sl rfl) (.cons rfl rfl rfl rfl (Sl rfl) .nil))))<|Od rfl rfl (LO.len rfl rfl ty55)<|qM rfl<|Nl<|Wb<|W.rename [(0,1),(1,2),(2,97)] 3 (T':=up (up (up (up (up (up (up mt 1 (some (.base (.int .i64 asn)))) 2 (some (.base (.int .i64 og)))) 8 (some (.own 0 0))) 9 (some (.own 1 0))) 70 (some (.osl 2 0 3 1))) 71 (some (.base (.int .i64 3)))) 72 (some (.base (.int .i64 (0:Int))))) (H':=up (up (up mt 0 (some ([.isl (setsC ss) ss.length,.isl (objsC os) os.length]))) 1 (some (preC p))) 2 (some (nm3))) (by decide) ?_ ?_ ?_
 ·exact aU (lR rfl) (aU (lR rfl) (aU (lI rfl) (aU (lI rfl) (aU (lI rfl) (aU (lR rfl) (aU (lR rfl) aM))))))
 ·exact aU (kR rfl) (aU (kR rfl) (aU (kR rfl) aM))
 refine W.loop_ind (α:=Nat) (fun x=>3 - x) 3 (fun x=>up (up (up (up (up (up (up mt 1 (some (.base (.int .i64 asn)))) 2 (some (.base (.int .i64 og)))) 8 (some (.own 0 0))) 9 (some (.own 1 0))) 70 (some (.osl 2 0 3 1))) 71 (some (.base (.int .i64 3)))) 72 (some (.base (.int .i64 (x:Int))))) (fun x=>up (up (up mt 0 (some ([.isl (setsC ss) ss.length,.isl (objsC os) os.length]))) 1 (some (preC p))) 2 (some (nm3))) (fun x=>x≤3) 0 (show 0≤3 from Nat.zero_le _) ?_
 rintro k hIA ihA
 try (dsimp only at hIA)
 try dsimp only
 by_cases hc:k < 3
 rotate_left
 ·have g1:decide ((k:Int) < 3)=false:=decide_eq_false (by omega)
  have hva:=rvalid_any p.ad
  rw [hpok.val] at hva
  clear ihA
  refine Wq<|qW 104 105 rfl<|qK rfl<|Nl<|Wq<|Wo rfl ‹_›<|Wx<|Wq<|qW 331 338 rfl<|qF rfl ty36 rfl<|qG rfl ty34 rfl (Tl rfl)<|qY rfl (hva) fok19 rfl<|qM rfl<|gY rfl rfl (haw) fok15 rfl<|qT rfl rfl rfl<|qA rfl<|Nl<|Wz ⟨.inl rfl,_,mt,(Rc (Rt0 rfl) Rv),aM,?_⟩
  exact ⟨rfl,rfl⟩
 have g1:decide ((k:Int) < 3)=true:=decide_eq_true (by omega)
 have hkk:(k:Int) + 1=((k + 1:Nat):Int):=by omega
 have hat:=nm3_at hc
 obtain ⟨s,hs⟩:∃ s,nmS k=s:=⟨_,rfl⟩
 rw [hs] at hat
 have hsz:s.size≤maxLen:=by
  rw [← hs]
  match k,hc with
  | 0,_=>exact Nat.zero_le _
  | 1,_=>exact asN_size 0
  | 2,_=>exact asN_size 1
 obtain ⟨v,H',hE,hvc,rfl⟩:=expand_any ss os s hss hos hsz
 have hcase:((!(s.toList == (⟨#[]⟩:ByteArray).toList))=true∧v=.tup [.nils,.nils,.base (.int .i64 11)])∨∃ l2:List Int,l2.length≤900∧AFn Tryz.prog 17 0 [.agg (regC ss os),.base (.int .i64 asn),.base (.string s),.agg (preC p),.base (.int .i64 og)] mt (.base (.int .i64 (pmtV p og (asn::l2) os))) mt∧(((!(s.toList == (⟨#[]⟩:ByteArray).toList))=false∧l2=[]∧v=.tup [.nils,.nils,.base (.int .i64 11)])∨((!(s.toList == (⟨#[]⟩:ByteArray).toList))=true∧∃ cs n,v=.tup [.isl (intsC l2) l2.length,.isl cs n,.base (.int .i64 0)])):=by
  by_cases hk0:k=0
  ·have hs0:s=⟨#[]⟩:=by rw [← hs,hk0];rfl
   have hne:¬ ∃ j,j < ss.length∧s=asN j:=fun ⟨j,hj,e⟩=>by
    rw [hs0] at e
    have hsl:=hss.len
    have:j=0∨j=1∨j=2∨j=3:=by omega
    rcases this with rfl|rfl|rfl|rfl<;>exact absurd e (by decide)
   rcases hvc with ⟨h1,_⟩|⟨_,h1⟩
   ·exact absurd h1 hne
   ·refine .inr ⟨[],by simp,?_,.inl ⟨by rw [hs0];simp,rfl,h1⟩⟩
    rw [hs0]
    exact permitted_none ss os asn og p hss hos hpok
  ·have hne:=nmS_ne (k:=k) (by omega) hc
   rw [hs] at hne
   rcases hvc with ⟨_,l2,cs,n,h1,h2⟩|⟨_,h1⟩
   ·refine .inr ⟨l2,h1,?_,.inr ⟨hne,cs,n,h2⟩⟩
    rw [h2] at hE
    exact permitted_ok ss os asn og s p l2 cs n hss hos hpok h1 hne hE
   ·exact .inl ⟨hne,h1⟩
 clear hvc
 unfold regC at hE
 rcases hcase with ⟨hne,rfl⟩|⟨l2,hll,hPm,hc2⟩
 ·have hPm:=permitted_err ss os asn og s p hss hos hne hE
  unfold regC at hPm
  refine Wq<|qW 104 105 rfl<|qK rfl<|Nl<|Wq<|Wt rfl ‹_›<|Wu<|Wq<|Wb<|Wq<|qW 109 112 rfl<|Od rfl rfl (Ia rfl rfl rfl rfl ty55 ty9 (by omega))<|Od rfl rfl (Ld rfl rfl rfl hat ty9 rfl)<|qA rfl<|Nl<|Wq<|qW 116 126 rfl<|qG rfl ty28 rfl (Tl rfl)<|qM rfl<|qY rfl (hE) fok16 rfl<|qM rfl<|qX rfl<|qX rfl<|qX rfl<|qA rfl<|qA rfl<|qA rfl<|Nl<|Wq<|Wq<|qW 130 136 rfl<|qM rfl<|Od rfl rfl (LO.neq_str rfl rfl rfl)<|qM rfl<|gM rfl ‹_›<|gN rfl ‹_›<|qT rfl ‹_› rfl<|Nl<|Wt rfl rfl<|Wq<|Wq<|qW 140 147 rfl<|qG rfl ty28 rfl (Tl rfl)<|qM rfl<|qM rfl<|qG rfl ty36 rfl (Tl rfl)<|qM rfl<|Od rfl rfl (C0 (fr:=[]) rfl rfl (hPm) fok17 (qArgs rfl rfl) rfl)<|qN rfl<|Nl<|Wo rfl rfl<|Wu<|Wx<|qW 325 327 rfl<|qZ rfl (iW _ (by omega))<|qM rfl<|Nl ?_
  rw [hkk]
  refine WL.rename [(0,0),(1,1),(2,2)] 3 (by decide) ?_ ?_ (ihA (k + 1) (show 3 - (k + 1) < 3 - k from by omega) (show (k + 1)≤3 from by omega))
  ·exact aU (lR rfl) (aU (lR rfl) (aU (lI rfl) (aU (lI rfl) (aU (lI rfl) (aU (lR rfl) (aU (lR rfl) aM))))))
  ·exact aU (kR rfl) (aU (kR rfl) (aU (kR rfl) aM))
 unfold regC at hPm
 have hfive:=five p og (asn::l2) os
 obtain ⟨G,hG⟩:∃ G,pmtV p og (asn::l2) os=G:=⟨_,rfl⟩
 rw [hG] at hPm hfive
 have hm0:(og == asn)=decide (og∈asn::l2.take 0):=by
  rw [List.take_zero]
  by_cases h:og=asn<;>simp [h]
 rcases hc2 with ⟨hne,hl2,rfl⟩|⟨hne,cs,n,rfl⟩
 case' inl =>
  refine Wq<|qW 104 105 rfl<|qK rfl<|Nl<|Wq<|Wt rfl ‹_›<|Wu<|Wq<|Wb<|Wq<|qW 109 112 rfl<|Od rfl rfl (Ia rfl rfl rfl rfl ty55 ty9 (by omega))<|Od rfl rfl (Ld rfl rfl rfl hat ty9 rfl)<|qA rfl<|Nl<|Wq<|qW 116 126 rfl<|qG rfl ty28 rfl (Tl rfl)<|qM rfl<|qY rfl (hE) fok16 rfl<|qM rfl<|qX rfl<|qX rfl<|qX rfl<|qA rfl<|qA rfl<|qA rfl<|Nl<|Wq<|Wq<|qW 130 136 rfl<|qM rfl<|Od rfl rfl (LO.neq_str rfl rfl rfl)<|qM rfl<|qD rfl ‹_› rfl<|qD rfl ‹_› rfl<|qP rfl ‹_› rfl<|Nl<|Wo rfl rfl<|Wu<|W.nilt (t:=15) rfl ?_
  rw [show AV.isl [] 0=.isl (intsC l2) l2.length from by rw [hl2];rfl]
 case' inr =>
  refine Wq<|qW 104 105 rfl<|qK rfl<|Nl<|Wq<|Wt rfl ‹_›<|Wu<|Wq<|Wb<|Wq<|qW 109 112 rfl<|Od rfl rfl (Ia rfl rfl rfl rfl ty55 ty9 (by omega))<|Od rfl rfl (Ld rfl rfl rfl hat ty9 rfl)<|qA rfl<|Nl<|Wq<|qW 116 126 rfl<|qG rfl ty28 rfl (Tl rfl)<|qM rfl<|qY rfl (hE) fok16 rfl<|qM rfl<|qX rfl<|qX rfl<|qX rfl<|qA rfl<|qA rfl<|qA rfl<|Nl<|Wq<|Wq<|qW 130 136 rfl<|qM rfl<|Od rfl rfl (LO.neq_str rfl rfl rfl)<|qM rfl<|gM rfl ‹_›<|gN rfl ‹_›<|qT rfl ‹_› rfl<|Nl<|Wo rfl rfl<|Wu ?_
 all_goals
  repeat (refine Wq ?_)
  refine qW 156 160 rfl<|qM rfl<|qM rfl<|qE rfl<|qA rfl<|Nl ?_
  repeat (refine Wq ?_)
  refine qW 164 167 rfl<|qM rfl<|qH rfl ty22<|qM rfl<|Nl<|Wb<|W.rename [(0,0),(1,1),(2,2)] 3 (T':=up (up (up (up (up (up (up (up (up (up (up (up mt 1 (some (.base (.int .i64 asn)))) 2 (some (.base (.int .i64 og)))) 8 (some (.own 0 0))) 9 (some (.own 1 0))) 14 (some (.base (.string s)))) 18 (some (.base (.bool ((og == asn)))))) 70 (some (.osl 2 0 3 1))) 71 (some (.base (.int .i64 3)))) 72 (some (.base (.int .i64 (k:Int))))) 99 (some (.isl (intsC l2) l2.length))) 100 (some (.base (.int .i64 (l2.length:Int))))) 101 (some (.base (.int .i64 (0:Int))))) (H':=up (up (up mt 0 (some ([.isl (setsC ss) ss.length,.isl (objsC os) os.length]))) 1 (some (preC p))) 2 (some (nm3))) (by decide) ?_ ?_ ?_
  ·exact aU (lR rfl) (aU (lR rfl) (aU (lR rfl) (aU (lR rfl) (aU (lR rfl) (aU (lI rfl) (aU (lR rfl) (aU (lR rfl) (aU (lI rfl) (aU (lI rfl) (aU (lR rfl) (aU (lR rfl) aM)))))))))))
  ·exact aU (kR rfl) (aU (kR rfl) (aU (kR rfl) aM))
  refine W.loop_ind (α:=Nat × Bool) (fun x=>l2.length - x.1) 3 (fun x=>up (up (up (up (up (up (up (up (up (up (up (up mt 1 (some (.base (.int .i64 asn)))) 2 (some (.base (.int .i64 og)))) 8 (some (.own 0 0))) 9 (some (.own 1 0))) 14 (some (.base (.string s)))) 18 (some (.base (.bool x.2)))) 70 (some (.osl 2 0 3 1))) 71 (some (.base (.int .i64 3)))) 72 (some (.base (.int .i64 (k:Int))))) 99 (some (.isl (intsC l2) l2.length))) 100 (some (.base (.int .i64 (l2.length:Int))))) 101 (some (.base (.int .i64 (x.1:Int))))) (fun x=>up (up (up mt 0 (some ([.isl (setsC ss) ss.length,.isl (objsC os) os.length]))) 1 (some (preC p))) 2 (some (nm3))) (fun x=>x.1≤l2.length∧x.2=decide (og∈asn::l2.take x.1)) (0,((og == asn))) (show 0≤l2.length∧((og == asn))=decide (og∈asn::l2.take 0) from ⟨Nat.zero_le _,hm0⟩) ?_
  rintro ⟨j,m⟩ hIB ihB
  try (dsimp only at hIB)
  try dsimp only
  obtain ⟨hj,hm⟩:=hIB
  by_cases hcj:j < l2.length
  ·have g2:decide ((j:Int) < (l2.length:Int))=true:=decide_eq_true (by omega)
   have hjj:(j:Int) + 1=((j + 1:Nat):Int):=by omega
   have hai:=ints_at hcj
   have hts:=take_s1 hcj
   obtain ⟨y,hy⟩:∃ y,l2[j]=y:=⟨_,rfl⟩
   rw [hy] at hai hts
   have hm2:(m || y == og)=decide (og∈asn::l2.take (j + 1)):=by
    rw [hts,hm]
    by_cases h1:og∈asn::l2.take j
    ·rw [decide_eq_true h1,Bool.true_or]
     exact (decide_eq_true (by rcases List.mem_cons.1 h1 with h|h;exact List.mem_cons.2 (.inl h);exact List.mem_cons.2 (.inr (List.mem_append_left _ h)))).symm
    ·rw [decide_eq_false h1,Bool.false_or]
     by_cases h2:y=og
     ·rw [decide_eq_true (by rw [h2];simp)];simp [h2]
     ·have:¬ og∈asn::(l2.take j++[y]):=fun h=>by
       rcases List.mem_cons.1 h with h|h
       ·exact h1 (List.mem_cons.2 (.inl h))
       ·rcases List.mem_append.1 h with h|h
        ·exact h1 (List.mem_cons.2 (.inr h))
        ·exact h2 (List.mem_singleton.1 h).symm
      rw [decide_eq_false this];simp [h2]
   clear hm
   repeat (refine Wq ?_)
   refine qW 171 172 rfl<|qK rfl<|Nl ?_
   repeat (refine Wq ?_)
   refine Wt rfl ‹_›<|Wu ?_
   repeat (refine Wq ?_)
   refine Wb ?_
   repeat (refine Wq ?_)
   refine qW 176 179 rfl<|qJ rfl rfl ty22 ty3 (by omega)<|Od rfl rfl (Li rfl rfl hai ty3 rfl)<|qA rfl<|Nl ?_
   cases m with
   | true =>
    refine qW 183 190 rfl<|qM rfl<|qM rfl<|qD rfl rfl rfl<|qD rfl rfl rfl<|qD rfl rfl rfl<|qT rfl rfl rfl<|qA rfl<|Nl<|qW 194 196 rfl<|qZ rfl (iW _ (by omega))<|qM rfl<|Nl ?_
    rw [hjj]
    refine WL.rename [(0,0),(1,1),(2,2)] 3 (by decide) ?_ ?_ (ihB ((j + 1),true) (show l2.length - (j + 1) < l2.length - j from by omega) (show (j + 1)≤l2.length∧true=decide (og∈asn::l2.take (j + 1)) from ⟨by omega,hm2⟩))
    ·exact aU (lR rfl) (aU (lR rfl) (aU (lR rfl) (aU (lR rfl) (aU (lR rfl) (aU (lI rfl) (aU (lR rfl) (aU (lR rfl) (aU (lI rfl) (aU (lI rfl) (aU (lR rfl) (aU (lR rfl) aM)))))))))))
    ·exact aU (kR rfl) (aU (kR rfl) (aU (kR rfl) aM))
   | false =>
    refine qW 183 190 rfl<|qM rfl<|qM rfl<|gM rfl rfl<|gM rfl rfl<|gE rfl rfl<|qP rfl rfl rfl<|qA rfl<|Nl<|qW 194 196 rfl<|qZ rfl (iW _ (by omega))<|qM rfl<|Nl ?_
    rw [hjj]
    refine WL.rename [(0,0),(1,1),(2,2)] 3 (by decide) ?_ ?_ (ihB ((j + 1),((y == og))) (show l2.length - (j + 1) < l2.length - j from by omega) (show (j + 1)≤l2.length∧((y == og))=decide (og∈asn::l2.take (j + 1)) from ⟨by omega,hm2⟩))
    ·exact aU (lR rfl) (aU (lR rfl) (aU (lR rfl) (aU (lR rfl) (aU (lR rfl) (aU (lI rfl) (aU (lR rfl) (aU (lR rfl) (aU (lI rfl) (aU (lI rfl) (aU (lR rfl) (aU (lR rfl) aM)))))))))))
    ·exact aU (kR rfl) (aU (kR rfl) (aU (kR rfl) aM))
  have g2:decide ((j:Int) < (l2.length:Int))=false:=decide_eq_false (by omega)
  rw [List.take_of_length_le (by omega)] at hm
  rw [← hm] at hfive
  clear ihB
  repeat (refine Wq ?_)
  refine qW 171 172 rfl<|qK rfl<|Nl ?_
  repeat (refine Wq ?_)
  refine Wo rfl ‹_›<|Wx ?_
  repeat (refine Wq ?_)
  refine qW 200 202 rfl<|qA rfl<|qA rfl<|Nl ?_
  repeat (refine Wq ?_)
  refine qW 206 210 rfl<|qF rfl ty28 rfl<|qL rfl ty26 rfl<|qH rfl ty26<|qM rfl<|Nl<|Wb<|W.rename [(0,0),(1,1),(2,2)] 3 (T':=up (up (up (up (up (up (up (up (up (up (up (up (up (up mt 1 (some (.base (.int .i64 asn)))) 2 (some (.base (.int .i64 og)))) 8 (some (.own 0 0))) 9 (some (.own 1 0))) 14 (some (.base (.string s)))) 18 (some (.base (.bool m)))) 21 (some (.base (.bool false)))) 22 (some (.base (.bool false)))) 70 (some (.osl 2 0 3 1))) 71 (some (.base (.int .i64 3)))) 72 (some (.base (.int .i64 (k:Int))))) 113 (some (.isl (objsC os) os.length))) 114 (some (.base (.int .i64 (os.length:Int))))) 115 (some (.base (.int .i64 (0:Int))))) (H':=up (up (up mt 0 (some ([.isl (setsC ss) ss.length,.isl (objsC os) os.length]))) 1 (some (preC p))) 2 (some (nm3))) (by decide) ?_ ?_ ?_
  ·exact aU (lR rfl) (aU (lR rfl) (aU (lR rfl) (aU (lR rfl) (aU (lR rfl) (aU (lI rfl) (aU (lR rfl) (aU (lR rfl) (aU (lR rfl) (aU (lR rfl) (aU (lI rfl) (aU (lI rfl) (aU (lR rfl) (aU (lR rfl) aM)))))))))))))
  ·exact aU (kR rfl) (aU (kR rfl) (aU (kR rfl) aM))
  refine W.loop_ind (α:=Nat × Bool × Bool) (fun x=>os.length - x.1) 3 (fun x=>up (up (up (up (up (up (up (up (up (up (up (up (up (up mt 1 (some (.base (.int .i64 asn)))) 2 (some (.base (.int .i64 og)))) 8 (some (.own 0 0))) 9 (some (.own 1 0))) 14 (some (.base (.string s)))) 18 (some (.base (.bool m)))) 21 (some (.base (.bool x.2.1)))) 22 (some (.base (.bool x.2.2)))) 70 (some (.osl 2 0 3 1))) 71 (some (.base (.int .i64 3)))) 72 (some (.base (.int .i64 (k:Int))))) 113 (some (.isl (objsC os) os.length))) 114 (some (.base (.int .i64 (os.length:Int))))) 115 (some (.base (.int .i64 (x.1:Int))))) (fun x=>up (up (up mt 0 (some ([.isl (setsC ss) ss.length,.isl (objsC os) os.length]))) 1 (some (preC p))) 2 (some (nm3))) (fun x=>x.1≤os.length∧x.2.1=(os.take x.1).any (inF p og)∧x.2.2=(os.take x.1).any (ftF p og)) (0,false,false) (show 0≤os.length∧false=(os.take 0).any (inF p og)∧false=(os.take 0).any (ftF p og) from ⟨Nat.zero_le _,rfl,rfl⟩) ?_
  rintro ⟨j,c1,c2⟩ hIC ihC
  try (dsimp only at hIC)
  try dsimp only
  obtain ⟨hj2,hc1,hc2'⟩:=hIC
  by_cases hcj2:j < os.length
  ·have g3:decide ((j:Int) < (os.length:Int))=true:=decide_eq_true (by omega)
   have hjj:(j:Int) + 1=((j + 1:Nat):Int):=by omega
   have hot:=objs_tk hcj2
   have hok:=hos.ok os[j] (List.getElem_mem hcj2)
   have h1n:=any_s1 (inF p og) hcj2
   have h2n:=any_s1 (ftF p og) hcj2
   rw [← hc1] at h1n
   rw [← hc2'] at h2n
   clear hc1 hc2'
   obtain ⟨o,hoe⟩:∃ o,os[j]=o:=⟨_,rfl⟩
   rw [hoe] at hot hok h1n h2n
   obtain ⟨cb,hcon,hcv⟩:=cont_all o.p p hok.p hpok
   repeat (refine Wq ?_)
   refine qW 214 215 rfl<|qK rfl<|Nl ?_
   repeat (refine Wq ?_)
   refine Wt rfl ‹_›<|Wu ?_
   repeat (refine Wq ?_)
   refine Wb ?_
   repeat (refine Wq ?_)
   refine qW 219 223 rfl<|qJ rfl rfl ty26 ty38 (by omega)<|Od rfl rfl (Lg rfl rfl ty38 rfl hot)<|qB rfl ty38<|qS rfl ty38 (Sl rfl) rfl<|Nl ?_
   by_cases hao:o.asn=og
   case' neg =>
    have q1:(o.asn == og)=false:=by simp [hao]
    have hib:inF p og o=false:=by unfold inF;rw [q1];rfl
    repeat (refine Wq ?_)
    refine qW 227 247 rfl<|qF rfl ty38 rfl<|qL rfl ty3 rfl<|qM rfl<|qE rfl<|qM rfl<|qD rfl ‹_› rfl<|qD rfl ‹_› rfl<|qD rfl ‹_› rfl<|qD rfl ‹_› rfl<|qD rfl ‹_› rfl<|qP rfl ‹_› rfl<|qM rfl<|qD rfl rfl rfl<|qD rfl rfl rfl<|qD rfl rfl rfl<|qD rfl rfl rfl<|qD rfl rfl rfl<|qD rfl rfl rfl<|qP rfl rfl rfl<|qA rfl<|Nl ?_
   case' pos =>
    have q1:(o.asn == og)=true:=by simp [hao]
    have hib0:inF p og o=cvP o.p p:=by unfold inF;rw [q1];rfl
    cases cb
    case' false =>
     have hib:inF p og o=false:=by rw [hib0,← hcv];rfl
     repeat (refine Wq ?_)
     refine qW 227 247 rfl<|qF rfl ty38 rfl<|qL rfl ty3 rfl<|qM rfl<|qE rfl<|qM rfl<|gF rfl ‹_› ty38 rfl<|gG rfl ‹_› ty36 rfl (Tl rfl)<|gF rfl ‹_› ty36 rfl<|gG rfl ‹_› ty34 rfl (Tl rfl)<|gY rfl ‹_› (hcon) fok18 rfl<|qT rfl ‹_› rfl<|qM rfl<|qD rfl rfl rfl<|qD rfl rfl rfl<|qD rfl rfl rfl<|qD rfl rfl rfl<|qD rfl rfl rfl<|qD rfl rfl rfl<|qP rfl rfl rfl<|qA rfl<|Nl ?_
    case' true =>
     have hib:inF p og o=decide (o.p.len≤p.len):=by rw [hib0,← hcv];rfl
     obtain ⟨ib,hibe⟩:∃ ib,decide (o.p.len≤p.len)=ib:=⟨_,rfl⟩
     rw [hibe] at hib
     repeat (refine Wq ?_)
     refine qW 227 247 rfl<|qF rfl ty38 rfl<|qL rfl ty3 rfl<|qM rfl<|qE rfl<|qM rfl<|gF rfl ‹_› ty38 rfl<|gG rfl ‹_› ty36 rfl (Tl rfl)<|gF rfl ‹_› ty36 rfl<|gG rfl ‹_› ty34 rfl (Tl rfl)<|gY rfl ‹_› (hcon) fok18 rfl<|qT rfl ‹_› rfl<|qM rfl<|gF rfl rfl ty38 rfl<|gF rfl rfl ty36 rfl<|gL rfl rfl ty3 rfl<|gF rfl rfl ty36 rfl<|gL rfl rfl ty3 rfl<|gLe rfl rfl<|qT rfl rfl rfl<|qA rfl<|Nl ?_
     rw [hibe]
     cases ib
   all_goals
    unfold ftF at h2n
    rw [hib] at h1n h2n
    cases c1
    all_goals
     cases c2
     all_goals
      refine Wd 251 268 (by decide) rfl mixed rfl<|qM rfl<|qM rfl ?_
      first
       | (refine RW.sd rfl rfl rfl ?_ rfl ?_;(· (first|rfl|assumption)))
       | (refine RW.gd rfl rfl rfl ?_ rfl (LO.move rfl rfl) ?_;(· (first|rfl|assumption)))
      first
       | (refine RW.opd rfl rfl (LO.pick_t rfl rfl ?_ rfl) ?_;(· (first|rfl|assumption)))
       | (refine RW.opd rfl rfl (LO.pick_f rfl rfl ?_ rfl) ?_;(· (first|rfl|assumption)))
      refine qM rfl<|qM rfl ?_
      first
       | (refine RW.sd rfl rfl rfl ?_ rfl ?_;(· (first|rfl|assumption)))
       | (refine RW.gd rfl rfl rfl ?_ rfl (LO.move rfl rfl) ?_;(· (first|rfl|assumption)))
      first
       | (refine RW.sd rfl rfl rfl ?_ rfl ?_;(· (first|rfl|assumption)))
       | (refine RW.gd rfl rfl rfl ?_ rfl (LO.move rfl rfl) ?_;(· (first|rfl|assumption)))
      first
       | (refine RW.sd rfl rfl rfl ?_ rfl ?_;(· (first|rfl|assumption)))
       | (refine RW.gd rfl rfl rfl ?_ rfl (LO.fieldAddr rfl rfl ty36 rfl (by decide)) ?_;(· (first|rfl|assumption)))
       | (refine RW.ud rfl rfl rfl rfl ?_)
      first
       | (refine RW.sd rfl rfl rfl ?_ rfl ?_;(· (first|rfl|assumption)))
       | (refine RW.gd rfl rfl rfl ?_ rfl (LO.load rfl rfl rfl rfl ty3 rfl) ?_;(· (first|rfl|assumption)))
       | (refine RW.ud rfl rfl rfl rfl ?_)
      first
       | (refine RW.sd rfl rfl rfl ?_ rfl ?_;(· (first|rfl|assumption)))
       | (refine RW.gd rfl rfl rfl ?_ rfl (LO.fieldAddr rfl rfl ty38 rfl (by decide)) ?_;(· (first|rfl|assumption)))
       | (refine RW.ud rfl rfl rfl rfl ?_)
      first
       | (refine RW.sd rfl rfl rfl ?_ rfl ?_;(· (first|rfl|assumption)))
       | (refine RW.gd rfl rfl rfl ?_ rfl (LO.load rfl rfl rfl rfl ty3 rfl) ?_;(· (first|rfl|assumption)))
       | (refine RW.ud rfl rfl rfl rfl ?_)
      first
       | (refine RW.sd rfl rfl rfl ?_ rfl ?_;(· (first|rfl|assumption)))
       | (refine RW.gd rfl rfl rfl ?_ rfl (LO.leq rfl rfl rfl) ?_;(· (first|rfl|assumption)))
       | (refine RW.ud rfl rfl rfl rfl ?_)
      first
       | (refine RW.sd rfl rfl rfl ?_ rfl ?_;(· (first|rfl|assumption)))
       | (refine RW.gd rfl rfl rfl ?_ rfl (LO.pick_t rfl rfl ?_ rfl) ?_;(· (first|rfl|assumption));(· (first|rfl|assumption)))
       | (refine RW.gd rfl rfl rfl ?_ rfl (LO.pick_f rfl rfl ?_ rfl) ?_;(· (first|rfl|assumption));(· (first|rfl|assumption)))
      first
       | (refine RW.opd rfl rfl (LO.pick_t rfl rfl ?_ rfl) ?_;(· (first|rfl|assumption)))
       | (refine RW.opd rfl rfl (LO.pick_f rfl rfl ?_ rfl) ?_;(· (first|rfl|assumption)))
      refine qA rfl<|qA rfl<|Nl ⟨by kernel_rfl,(qW 272 274 rfl<|qZ rfl (iW _ (by omega))<|qM rfl<|Nl ?_)⟩
      rw [hjj]
      refine WL.rename [(0,0),(1,1),(2,2)] 3 (by decide) ?_ ?_ (ihC ((j + 1),_,_) (show os.length - (j + 1) < os.length - j from by omega) (show (j + 1)≤os.length∧_=(os.take (j + 1)).any (inF p og)∧_=(os.take (j + 1)).any (ftF p og) from ⟨by omega,h1n.symm,h2n.symm⟩))
      ·exact aU (lR rfl) (aU (lR rfl) (aU (lR rfl) (aU (lR rfl) (aU (lR rfl) (aU (lI rfl) (aU (lR rfl) (aU (lR rfl) (aU (lR rfl) (aU (lR rfl) (aU (lI rfl) (aU (lI rfl) (aU (lR rfl) (aU (lR rfl) aM)))))))))))))
      ·exact aU (kR rfl) (aU (kR rfl) (aU (kR rfl) aM))
  have g3:decide ((j:Int) < (os.length:Int))=false:=decide_eq_false (by omega)
  rw [List.take_of_length_le (by omega)] at hc1 hc2'
  rw [← hc1,← hc2'] at hfive
  clear ihC hm hc1 hc2' hG
  repeat (refine Wq ?_)
  refine qW 214 215 rfl<|qK rfl<|Nl ?_
  repeat (refine Wq ?_)
  refine Wo rfl ‹_›<|Wx ?_
  repeat (refine Wq ?_)
  refine qW 278 285 rfl<|qG rfl ty28 rfl (Tl rfl)<|qM rfl<|qM rfl<|qG rfl ty36 rfl (Tl rfl)<|qM rfl<|Od rfl rfl (C0 (fr:=[]) rfl rfl (hPm) fok17 (qArgs rfl rfl) rfl)<|qA rfl<|Nl ?_
  rcases hfive with ⟨rfl,rfl⟩|⟨rfl,rfl,rfl⟩|⟨rfl,rfl,rfl,rfl⟩|⟨rfl,rfl,rfl,rfl|rfl⟩
  case' inr.inl =>
   cases c1
  case' inl =>
   cases c1
  all_goals
   repeat (refine Wq ?_)
   refine qW 289 316 rfl<|qM rfl<|qE rfl<|qM rfl<|qM rfl ?_
   first
    | (refine RW.sd rfl rfl rfl ?_ rfl ?_;(· (first|rfl|assumption)))
    | (refine RW.gd rfl rfl rfl ?_ rfl (LO.move rfl rfl) ?_;(· (first|rfl|assumption)))
   first
    | (refine RW.opd rfl rfl (LO.pick_t rfl rfl ?_ rfl) ?_;(· (first|rfl|assumption)))
    | (refine RW.opd rfl rfl (LO.pick_f rfl rfl ?_ rfl) ?_;(· (first|rfl|assumption)))
   refine Od rfl rfl (LO.neq_bool rfl rfl rfl ty4)<|qM rfl<|gM rfl rfl<|gE rfl rfl<|gM rfl rfl<|gO rfl rfl<|qU rfl rfl rfl (LO.neq_bool rfl rfl rfl ty4)<|qP rfl rfl rfl<|qM rfl<|gM rfl rfl<|gE rfl rfl<|gM rfl rfl<|gM rfl rfl ?_
   first
    | (refine RW.sd rfl rfl rfl ?_ rfl ?_;(· (first|rfl|assumption)))
    | (refine RW.gd rfl rfl rfl ?_ rfl (LO.move rfl rfl) ?_;(· (first|rfl|assumption)))
   first
    | (refine RW.gd rfl rfl rfl ?_ rfl (LO.pick_t rfl rfl ?_ rfl) ?_;(· (first|rfl|assumption));(· (first|rfl|assumption)))
    | (refine RW.gd rfl rfl rfl ?_ rfl (LO.pick_f rfl rfl ?_ rfl) ?_;(· (first|rfl|assumption));(· (first|rfl|assumption)))
   refine gM rfl rfl ?_
   first
    | (refine RW.sd rfl rfl rfl ?_ rfl ?_;(· (first|rfl|assumption)))
    | (refine RW.gd rfl rfl rfl ?_ rfl (LO.move rfl rfl) ?_;(· (first|rfl|assumption)))
   first
    | (refine RW.sd rfl rfl rfl ?_ rfl ?_;(· (first|rfl|assumption)))
    | (refine RW.gd rfl rfl rfl ?_ rfl (LO.not rfl rfl) ?_;(· (first|rfl|assumption)))
   first
    | (refine RW.gd rfl rfl rfl ?_ rfl (LO.pick_t rfl rfl ?_ rfl) ?_;(· (first|rfl|assumption));(· (first|rfl|assumption)))
    | (refine RW.gd rfl rfl rfl ?_ rfl (LO.pick_f rfl rfl ?_ rfl) ?_;(· (first|rfl|assumption));(· (first|rfl|assumption)))
   refine qU rfl rfl rfl (LO.neq_bool rfl rfl rfl ty4)<|qP rfl rfl rfl<|Nl<|Wo rfl rfl<|Wu<|qW 325 327 rfl<|qZ rfl (iW _ (by omega))<|qM rfl<|Nl ?_
   rw [hkk]
   refine WL.rename [(0,0),(1,1),(2,2)] 3 (by decide) ?_ ?_ (ihA (k + 1) (show 3 - (k + 1) < 3 - k from by omega) (show (k + 1)≤3 from by omega))
   ·exact aU (lR rfl) (aU (lR rfl) (aU (lI rfl) (aU (lI rfl) (aU (lI rfl) (aU (lR rfl) (aU (lR rfl) aM))))))
   ·exact aU (kR rfl) (aU (kR rfl) (aU (kR rfl) aM))
theorem memsC_len (l:List Mem):(memsC l).length=l.length * 6:=by
 induction l with
 | nil=>rfl
 | cons x l ih=>rw [show memsC (x::l)=memC x++memsC l from rfl,List.length_append,ih,show (memC x).length=6 from rfl,List.length_cons];omega
theorem memsC_pure (l:List Mem):(memsC l).all AV.pure1=true:=by
 induction l with
 | nil=>rfl
 | cons x l ih=>rw [show memsC (x::l)=memC x++memsC l from rfl,List.all_append,ih];rfl
theorem mems_all {l:List Mem} {n:Nat} (h:l.length=n):Tk (memsC l) 0 (n * 6) (memsC l):=by
 have:=Tk.all (memsC l)
 rwa [memsC_len,h] at this
theorem all_any (d:Db) (h1:d.servers.length≤1000) (h2:d.members.length≤1000):AFn Tryz.prog 106 0 [.agg (dbC d)] mt (.isl (memsC (d.servers++d.members)) (d.servers++d.members).length) mt:=by
 refine AFn.eq Tryz.func106 rfl rfl (Nat.le_of_ble_eq_true rfl)<|Wq<|qW 0 2 rfl<|qC rfl<|qA rfl<|Nl<|Wq<|Wd 6 13 (by decide) rfl mixed rfl<|qF rfl ty82 rfl<|qL rfl ty80 rfl<|Od rfl rfl (Lan rfl rfl (Ssi rfl rfl (memsC_len _)) ty80 ty80 ty142 (by decide) (by omega) (by omega) (by decide))<|qF rfl ty82 rfl<|qL rfl ty80 rfl<|Od rfl rfl (Lap rfl rfl (Ssi rfl rfl (memsC_len _)) rfl (mems_all rfl) ty80 ty80 ty142 (by decide) (by omega) (by omega) (by decide))<|qA rfl<|Nl ⟨by kernel_rfl,?_⟩
 rw [show memsC d.servers++memsC d.members=memsC (d.servers++d.members) from by simp [memsC],show d.servers.length + d.members.length=(d.servers++d.members).length from by simp]
 refine Wy (t:=2) rfl rfl (mems_all rfl) (memsC_pure _)<|Wz ⟨.inl rfl,_,mt,Rc (Rt0 rfl) (Rv),aM,?_⟩
 exact ⟨rfl,rfl⟩
theorem macsC_len {l:List (List Int)} (h:∀ m,m∈l→m.length=6):(macsC l).length=l.length * 6:=by
 induction l with
 | nil=>rfl
 | cons x l ih=>rw [show macsC (x::l)=bytesC x++macsC l from rfl,List.length_append,ih (fun m hm=>h m (by simp [hm])),bytesC_len,h x (by simp),List.length_cons];omega
theorem macsC_pure (l:List (List Int)):(macsC l).all AV.pure1=true:=flatPure (fun m=>bytesC_pure m) l
theorem macs_all {l:List (List Int)} (h:∀ m,m∈l→m.length=6):Tk (macsC l) 0 (l.length * 6) (macsC l):=by
 have:=Tk.all (macsC l)
 rwa [macsC_len h] at this
theorem prtsC_pure (l:List Prt):(prtsC l).all AV.pure1=true:=flatPure (fun _=>rfl) l
theorem prts_all {l:List Prt} {n:Nat} (h:l.length=n):Tk (prtsC l) 0 (n * 10) (prtsC l):=flatAll (c:=prtC) (fun _=>rfl) h
theorem copyPort_any (p:Prt) (hm:∀ m,m∈p.macs→m.length=6) (hn:p.macs.length≤1000):AFn Tryz.prog 107 0 [.agg (prtC p)] mt (.agg (prtC p)) mt:=by
 refine AFn.eq Tryz.func107 rfl rfl (Nat.le_of_ble_eq_true rfl) ?_
 obtain ⟨id,sw,sp,ms,v4,v6⟩:=p
 dsimp only at hm hn
 have hl:=macsC_len hm
 refine Wq<|qW 0 2 rfl<|qC rfl<|qB rfl ty186<|Nl<|Wq<|qW 6 11 rfl<|qF rfl ty186 rfl<|qL rfl ty103 rfl<|Od rfl rfl (Lan rfl rfl (Ssi rfl rfl hl) ty103 ty103 ty93 (by decide) (by dsimp only;omega) (by dsimp only;omega) (by decide))<|qF rfl ty186 rfl<|qS rfl ty103 (Sl rfl) rfl<|Nl<|Wv (q:=0) (j:=3) (r:=8) rfl rfl (by decide) rfl (macs_all hm) (macsC_pure _) (Sl rfl)<|Wq<|qW 15 17 rfl<|qG rfl ty186 rfl (Tl rfl)<|qS rfl ty186 (Sl rfl) rfl<|Nl<|Wz ⟨.inl rfl,_,mt,(Rc (Ra0 rfl rfl ty186 rfl (Tl rfl)) Rv),aM,?_⟩
 exact ⟨rfl,rfl⟩
def allP (d:Db):List Prt:=(d.servers++d.members).flatMap (·.ports)
structure PrtS (p:Prt):Prop where
 nm:p.macs.length≤2
 macs:∀ m,m∈p.macs→m.length=6
structure MemS (m:Mem):Prop where
 np:m.ports.length≤4
 ports:∀ p,p∈m.ports→PrtS p
structure DbS (d:Db):Prop where
 ns:d.servers.length≤4
 nm:d.members.length≤32
 mem:∀ m,m∈d.servers++d.members→MemS m
def selP (L:List Prt) (n:Nat):List Prt:=L.filter fun p=>p.id == (n:Int)
def portsOf (d:Db):List Prt:=(List.range 1000).flatMap (selP (allP d))
theorem selP_app (a b:List Prt) (n:Nat):selP (a++b) n=selP a n++selP b n:=List.filter_append ..
set_option maxHeartbeats 1000000 in
theorem portsS_any (d:Db) (hd:DbS d) (hs:(portsOf d).length≤1000):AFn Tryz.prog 58 0 [.agg (dbC d)] mt (.isl (prtsC (portsOf d)) (portsOf d).length) mt:=by
 refine AFn.eq Tryz.func58 rfl rfl (Nat.le_of_ble_eq_true rfl) ?_
 have h4:=hd.ns
 have h32:=hd.nm
 have hmem:=hd.mem
 have hall:=all_any d (by omega) (by omega)
 unfold portsOf allP at hs ⊢
 obtain ⟨A,hA⟩:∃ A,A=d.servers++d.members:=⟨_,rfl⟩
 rw [← hA] at hall hmem hs ⊢
 obtain ⟨Z,hZ⟩:∃ Z,Z=A.flatMap (·.ports):=⟨_,rfl⟩
 rw [← hZ] at hs ⊢
 have hAl:A.length≤2000:=by rw [hA,List.length_append];omega
 refine Wq<|qW 0 2 rfl<|qC rfl<|qA rfl<|Nl<|Wq<|qW 6 7 rfl<|qA rfl<|Nl<|Wq<|Wq<|qW 11 12 rfl<|qA rfl<|Nl<|W.name 12 (12 + 1) (t:=3) (sz:=10) rfl (by decide) (by decide)<|Wb<|W.rename [(0,0),(1,12)] 2 (T':=up (up (up mt 1 (some (.own 0 0))) 3 (some (.osl 1 0 ((List.range 0).flatMap (selP Z)).length 10))) 4 (some (.base (.int .i64 (0:Int))))) (H':=up (up mt 0 (some (dbC d))) 1 (some (prtsC ((List.range 0).flatMap (selP Z))))) (by decide) ?_ ?_ ?_
 ·exact aU (lR rfl) (aU (lI rfl) (aU (lI rfl) aM))
 ·exact aU (kR rfl) (aU (kR rfl) aM)
 refine W.loop_ind (α:=Nat) (fun x=>1000 - x) 2 (fun x=>up (up (up mt 1 (some (.own 0 0))) 3 (some (.osl 1 0 ((List.range x).flatMap (selP Z)).length 10))) 4 (some (.base (.int .i64 (x:Int))))) (fun x=>up (up mt 0 (some (dbC d))) 1 (some (prtsC ((List.range x).flatMap (selP Z))))) (fun x=>x≤1000) 0 (show 0≤1000 from Nat.zero_le _) ?_
 rintro n hIA ihA
 try (dsimp only at hIA)
 try dsimp only
 by_cases hc:n < 1000
 ·have g1:decide ((n:Int)≤999)=true:=decide_eq_true (by omega)
  have hpre:∀ X Y:List Prt,selP Z n=X++Y→((List.range n).flatMap (selP Z)++X).length≤1000:=fun X Y e=>by
   obtain ⟨k,hk⟩:∃ k,1000=n + 1 + k:=⟨1000 - (n + 1),by omega⟩
   rw [hk,List.range_add,List.flatMap_append,List.range_succ,List.flatMap_append] at hs
   simp only [List.flatMap_cons,List.flatMap_nil,List.append_nil,e,List.length_append] at hs ⊢
   omega
  have hnext:(List.range n).flatMap (selP Z)++selP Z n=(List.range (n + 1)).flatMap (selP Z):=by
   rw [List.range_succ,List.flatMap_append];simp
  generalize (List.range n).flatMap (selP Z)=R at *
  refine Wq<|Wq<|qW 16 18 rfl<|qM rfl<|qLe rfl<|Nl<|Wt rfl ‹_›<|Wu<|Wq<|Wb<|Wq<|qW 22 26 rfl<|qG rfl ty82 rfl (Tl rfl)<|qY rfl (hall) fok106 rfl<|qH rfl ty80<|qM rfl<|Nl ?_
  rw [show R=R++selP ((A.take 0).flatMap (·.ports)) n from by simp [selP]]
  refine Wb<|W.rename [(0,0),(1,1)] 2 (T':=up (up (up (up (up (up mt 1 (some (.own 0 0))) 3 (some (.osl 1 0 (R++selP ((A.take 0).flatMap (·.ports)) n).length 10))) 4 (some (.base (.int .i64 (n:Int))))) 14 (some (.isl (memsC A) A.length))) 15 (some (.base (.int .i64 (A.length:Int))))) 16 (some (.base (.int .i64 (0:Int))))) (H':=up (up mt 0 (some (dbC d))) 1 (some (prtsC (R++selP ((A.take 0).flatMap (·.ports)) n)))) (by decide) ?_ ?_ ?_
  ·exact aU (lR rfl) (aU (lR rfl) (aU (lR rfl) (aU (lR rfl) (aU (lI rfl) (aU (lI rfl) aM)))))
  ·exact aU (kP rfl (prtsC_pure _)) (aU (kR rfl) aM)
  refine W.loop_ind (α:=Nat) (fun x=>A.length - x) 2 (fun x=>up (up (up (up (up (up mt 1 (some (.own 0 0))) 3 (some (.osl 1 0 (R++selP ((A.take x).flatMap (·.ports)) n).length 10))) 4 (some (.base (.int .i64 (n:Int))))) 14 (some (.isl (memsC A) A.length))) 15 (some (.base (.int .i64 (A.length:Int))))) 16 (some (.base (.int .i64 (x:Int))))) (fun x=>up (up mt 0 (some (dbC d))) 1 (some (prtsC (R++selP ((A.take x).flatMap (·.ports)) n)))) (fun x=>x≤A.length) 0 (show 0≤A.length from Nat.zero_le _) ?_
  rintro i hIB ihB
  try (dsimp only at hIB)
  try dsimp only
  by_cases hc2:i < A.length
  ·have g2:decide ((i:Int) < (A.length:Int))=true:=decide_eq_true (by omega)
   have hm:=hmem _ (List.getElem_mem hc2)
   have hps:=hm.ports
   have hnp:=hm.np
   have hfl:(A.take (i + 1)).flatMap (·.ports)=(A.take i).flatMap (·.ports)++A[i].ports:=by
    rw [List.take_add_one,List.flatMap_append]
    simp [hc2]
   have hsp:∃ Y,Z=((A.take i).flatMap (·.ports)++A[i].ports)++Y:=⟨(A.drop (i + 1)).flatMap (·.ports),by
    rw [hZ,← hfl,← List.flatMap_append,List.take_append_drop]⟩
   obtain ⟨Y,hsp⟩:=hsp
   refine Wq<|qW 30 31 rfl<|qK rfl<|Nl<|Wq<|Wt rfl ‹_›<|Wu<|Wq<|Wb<|Wq<|qW 35 39 rfl<|qJ rfl rfl ty80 ty142 (by omega)<|Od rfl rfl (Lg rfl rfl ty142 rfl (mems_tk hc2))<|qB rfl ty142<|qS rfl ty142 (Sl rfl) rfl<|Nl<|Wq<|qW 43 47 rfl<|qF rfl ty142 rfl<|qL rfl ty138 rfl<|qH rfl ty138<|qM rfl<|Nl ?_
   generalize A[i].ports=ps at *
   generalize (A.take i).flatMap (·.ports)=X at *
   rw [show X=X++ps.take 0 from by simp]
   refine Wb<|W.rename [(0,0),(1,1)] 2 (T':=up (up (up (up (up (up (up (up (up mt 1 (some (.own 0 0))) 3 (some (.osl 1 0 (R++selP (X++ps.take 0) n).length 10))) 4 (some (.base (.int .i64 (n:Int))))) 14 (some (.isl (memsC A) A.length))) 15 (some (.base (.int .i64 (A.length:Int))))) 16 (some (.base (.int .i64 (i:Int))))) 21 (some (.isl (prtsC ps) ps.length))) 22 (some (.base (.int .i64 (ps.length:Int))))) 23 (some (.base (.int .i64 (0:Int))))) (H':=up (up mt 0 (some (dbC d))) 1 (some (prtsC (R++selP (X++ps.take 0) n)))) (by decide) ?_ ?_ ?_
   ·exact aU (lR rfl) (aU (lR rfl) (aU (lR rfl) (aU (lR rfl) (aU (lR rfl) (aU (lR rfl) (aU (lR rfl) (aU (lI rfl) (aU (lI rfl) aM))))))))
   ·exact aU (kP rfl (prtsC_pure _)) (aU (kR rfl) aM)
   refine W.loop_ind (α:=Nat) (fun x=>ps.length - x) 2 (fun x=>up (up (up (up (up (up (up (up (up mt 1 (some (.own 0 0))) 3 (some (.osl 1 0 (R++selP (X++ps.take x) n).length 10))) 4 (some (.base (.int .i64 (n:Int))))) 14 (some (.isl (memsC A) A.length))) 15 (some (.base (.int .i64 (A.length:Int))))) 16 (some (.base (.int .i64 (i:Int))))) 21 (some (.isl (prtsC ps) ps.length))) 22 (some (.base (.int .i64 (ps.length:Int))))) 23 (some (.base (.int .i64 (x:Int))))) (fun x=>up (up mt 0 (some (dbC d))) 1 (some (prtsC (R++selP (X++ps.take x) n)))) (fun x=>x≤ps.length) 0 (show 0≤ps.length from Nat.zero_le _) ?_
   rintro j hIC ihC
   try (dsimp only at hIC)
   try dsimp only
   by_cases hc3:j < ps.length
   ·have g3:decide ((j:Int) < (ps.length:Int))=true:=decide_eq_true (by omega)
    have hQ:X++ps.take (j + 1)=(X++ps.take j)++[ps[j]]:=by rw [List.take_add_one,← List.append_assoc];simp [hc3]
    have hlen:(R++selP (X++ps.take (j + 1)) n).length≤1000:=hpre _ (selP (ps.drop (j + 1)++Y) n) (by
     rw [← selP_app,hsp]
     congr 1
     conv=>lhs;rw [← List.take_append_drop (j + 1) ps]
     simp only [List.append_assoc])
    have hpo:=hps _ (List.getElem_mem hc3)
    have hcp:=copyPort_any ps[j] (fun m h=>hpo.macs m h) (by have:=hpo.nm;omega)
    rw [hQ] at hlen
    refine Wq<|qW 51 52 rfl<|qK rfl<|Nl<|Wq<|Wt rfl ‹_›<|Wu<|Wq<|Wb<|Wq<|qW 56 60 rfl<|qJ rfl rfl ty138 ty186 (by omega)<|Od rfl rfl (Lg rfl rfl ty186 rfl (prts_tk hc3))<|qB rfl ty186<|qS rfl ty186 (Sl rfl) rfl<|Nl ?_
    generalize ps[j]=p at *
    generalize X++ps.take j=Q at *
    cases he:(p.id == (n:Int))
    ·have e:R++selP Q n=R++selP (X++ps.take (j + 1)) n:=by
      rw [hQ,selP_app,show selP [p] n=[] from by simp [selP,he],List.append_nil]
     refine Wq<|qW 64 68 rfl<|qF rfl ty186 rfl<|qL rfl ty3 rfl<|qM rfl<|qE rfl<|Nl<|Wo rfl ‹_›<|Wu<|qW 82 84 rfl<|qZ rfl (iW _ (by omega))<|qM rfl<|Nl ?_
     rw [e]
     refine WL.rename [(0,0),(1,1)] 2 (by decide) ?_ ?_ (ihC (j + 1) (show ps.length - (j + 1) < ps.length - j from by omega) (show (j + 1)≤ps.length from by omega))
     ·exact aU (lR rfl) (aU (lR rfl) (aU (lR rfl) (aU (lR rfl) (aU (lR rfl) (aU (lR rfl) (aU (lR rfl) (aU (lI rfl) (aU (lI rfl) aM))))))))
     ·exact aU (kP rfl (prtsC_pure _)) (aU (kR rfl) aM)
    ·have e:(R++selP Q n)++[p]=R++selP (X++ps.take (j + 1)) n:=by
      rw [hQ,selP_app,show selP [p] n=[p] from by simp [selP,he],List.append_assoc]
     rw [selP_app,show selP [p] n=[p] from by simp [selP,he],← List.append_assoc,List.length_append,List.length_singleton] at hlen
     generalize R++selP Q n=B at *
     refine Wq<|qW 64 68 rfl<|qF rfl ty186 rfl<|qL rfl ty3 rfl<|qM rfl<|qE rfl<|Nl<|Wt rfl ‹_›<|qW 72 78 rfl<|qM rfl<|qG rfl ty186 rfl (Tl rfl)<|qY rfl (hcp) fok107 rfl<|Od rfl rfl (LO.buildSlice rfl ty138 ty186 (by decide) (by decide) (.cons rfl rfl rfl rfl (Sl rfl) .nil))<|Od rfl rfl (Lap rfl rfl (Sso rfl rfl (Tl rfl)) rfl (prts_all rfl) ty138 ty138 ty186 (by decide) (by omega) (by omega) (by decide))<|qA rfl<|Nl ?_
     rw [show prtsC B++[.base (.int .i64 p.id),.base (.int .i64 p.sw),.base (.int .i64 p.speed),.isl (macsC p.macs) p.macs.length,.base (.bool p.v4.v6),.base (.int .u64 p.v4.hi),.base (.int .u64 p.v4.lo),.base (.bool p.v6.v6),.base (.int .u64 p.v6.hi),.base (.int .u64 p.v6.lo)]=prtsC (B++[p]) from by simp [prtsC,prtC,adC],show B.length + 1=(B++[p]).length from by simp,e]
     refine qW 82 84 rfl<|qZ rfl (iW _ (by omega))<|qM rfl<|Nl<|WL.rename [(0,0),(1,76)] 2 (by decide) ?_ ?_ (ihC (j + 1) (show ps.length - (j + 1) < ps.length - j from by omega) (show (j + 1)≤ps.length from by omega))
     ·exact aU (lR rfl) (aU (lR rfl) (aU (lR rfl) (aU (lR rfl) (aU (lR rfl) (aU (lR rfl) (aU (lR rfl) (aU (lI rfl) (aU (lI rfl) aM))))))))
     ·exact aU (kP rfl (prtsC_pure _)) (aU (kR rfl) aM)
   ·have g3:decide ((j:Int) < (ps.length:Int))=false:=decide_eq_false (by omega)
    refine Wq<|qW 51 52 rfl<|qK rfl<|Nl<|Wq<|Wo rfl ‹_›<|Wx ?_
    clear ihC
    obtain rfl:j=ps.length:=by omega
    rw [List.take_length,← hfl]
    refine qW 88 90 rfl<|qZ rfl (iW _ (by omega))<|qM rfl<|Nl<|WL.rename [(0,0),(1,1)] 2 (by decide) ?_ ?_ (ihB (i + 1) (show A.length - (i + 1) < A.length - i from by omega) (show (i + 1)≤A.length from by omega))
    ·exact aU (lR rfl) (aU (lR rfl) (aU (lR rfl) (aU (lR rfl) (aU (lI rfl) (aU (lI rfl) aM)))))
    ·exact aU (kP rfl (prtsC_pure _)) (aU (kR rfl) aM)
  ·have g2:decide ((i:Int) < (A.length:Int))=false:=decide_eq_false (by omega)
   refine Wq<|qW 30 31 rfl<|qK rfl<|Nl<|Wq<|Wo rfl ‹_›<|Wx ?_
   clear ihB
   obtain rfl:i=A.length:=by omega
   rw [List.take_length,← hZ,hnext]
   refine qW 94 97 rfl<|qM rfl<|qZ rfl (iW _ (by omega))<|qA rfl<|Nl<|WL.rename [(0,0),(1,1)] 2 (by decide) ?_ ?_ (ihA (n + 1) (show 1000 - (n + 1) < 1000 - n from by omega) (show (n + 1)≤1000 from by omega))
   ·exact aU (lR rfl) (aU (lI rfl) (aU (lI rfl) aM))
   ·exact aU (kP rfl (prtsC_pure _)) (aU (kR rfl) aM)
 ·have g1:decide ((n:Int)≤999)=false:=decide_eq_false (by omega)
  refine Wq<|Wq<|qW 16 18 rfl<|qM rfl<|qLe rfl<|Nl<|Wo rfl ‹_›<|Wx ?_
  clear ihA
  obtain rfl:n=1000:=by omega
  refine Wq<|qW 101 103 rfl<|qM rfl<|qA rfl<|Nl<|Wy (t:=2) rfl rfl (prts_all rfl) (prtsC_pure _)<|Wz ⟨.inl rfl,_,mt,Rc (Rt0 rfl) (Rv),aM,?_⟩
  exact ⟨rfl,rfl⟩
end Go.Proofs.YtndbhhgmpjjjhaaGreatDoor
