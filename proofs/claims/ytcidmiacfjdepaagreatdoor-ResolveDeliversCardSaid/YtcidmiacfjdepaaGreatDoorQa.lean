/-
  Bytes, numbers of several bytes, addresses, check sums, packets: plain words and laws.
-/
import Derived.Test.YtcidmiacfjdepaaGreatDoorLy
import Derived.Laws.Entries
import Derived.Laws.CopyOwn
import Derived.OpenShut
import Derived.Test.YtcidmiacfjdepaaGreatDoorMab
namespace Go.Proofs.YtcidmiacfjdepaaGreatDoor
open Go.RowKit
def accN (f:Nat→Int):Nat→Int
  | 0=>0
  | k + 1=>accN f k + (if k % 2=0 then f k * 256 else f k)
def foldS (n:Int):Int:=if n=0 then 0 else (n - 1) % 65535 + 1
/-- element k -/
def gB (bs:List Int) (k:Nat):Int:=bs.getD k 0
def accL (bs:List Int):Int:=accN (gB bs) bs.length
def sumL (bs:List Int):Int:=65535 - foldS (accL bs)
def IsB (bs:List Int):Prop:=∀ x∈bs,0≤x∧x≤255
theorem IsB.at {bs:List Int} (h:IsB bs) (k:Nat):0≤gB bs k∧gB bs k≤255:=by
  unfold gB
  by_cases hk:k < bs.length
  · simp only [List.getD_eq_getElem?_getD,List.getElem?_eq_getElem hk,Option.getD_some]
    exact h _ (List.getElem_mem hk)
  · simp [List.getElem?_eq_none (Nat.le_of_not_lt hk)]
theorem accN_bd (f:Nat→Int) (k:Nat) (h:∀ j,0≤f j∧f j≤255):0≤accN f k∧accN f k≤65280 * k:=by
  induction k with
  | zero=>simp [accN]
  | succ k ih =>
    have h2:=h k
    unfold accN
    split<;>omega
theorem foldS_small {n:Int} (h0:0≤n) (h:n≤65535):foldS n=n:=by
  unfold foldS;split<;>omega
theorem foldS_step {n:Int} (h:65535 < n):foldS (n / 65536 + n % 65536)=foldS n:=by
  unfold foldS;rw [if_neg (by omega),if_neg (by omega)];omega
theorem sumL_bd {bs:List Int} (h:IsB bs):0≤sumL bs∧sumL bs≤65535:=by
  have:=(accN_bd (gB bs) bs.length (fun j=>h.at j)).1
  unfold sumL foldS accL;split<;>omega
structure Ad where
  v6:Bool
  hi:Int
  lo:Int
/-- is it a valid address? -/
theorem IsB.append {xs ys:List Int} (h:IsB xs) (k:IsB ys):IsB (xs++ys):=by
  intro y hy
  rcases List.mem_append.1 hy with h1|h1
  · exact h y h1
  · exact k y h1
def validA (v6:Bool) (hi lo:Int):Bool:=v6 || (hi == 0 && decide (lo < 4294967296))
/-- one more byte behind an address' number -/
def fbStep (a:Int × Int) (x:Int):Int × Int:=(bits .or .u64 (IntKind.u64.wrap (a.1 * 256)) (a.2 / 72057594037927936),bits .or .u64 (IntKind.u64.wrap (a.2 * 256)) x)
def fb (bs:List Int):Int × Int:=bs.foldl fbStep (0,0)
theorem fb_snoc (bs:List Int) (k:Nat) (h:k < bs.length):fb (bs.take (k + 1))=fbStep (fb (bs.take k)) (gB bs k):=by
  unfold fb
  rw [List.take_succ_eq_append_getElem h,List.foldl_append]
  simp [gB,List.getD,h]
def U64 (x:Int):Prop:=0≤x∧x < 18446744073709551616
theorem u64_bits (op:BinOp) (x y:Int):U64 (bits op .u64 x y):=by
  have:=bounds_u64 (wf_bits op .u64 x y)
  unfold U64;omega
theorem fbStep_bd (a:Int × Int) (x:Int):U64 (fbStep a x).1∧U64 (fbStep a x).2:=by
  simp only [fbStep]
  exact ⟨u64_bits _ _ _,u64_bits _ _ _⟩
theorem fb_bd (bs:List Int):U64 (fb bs).1∧U64 (fb bs).2:=by
  unfold fb
  rw [← List.foldr_reverse]
  generalize bs.reverse=l
  cases l with
  | nil=>unfold U64;simp
  | cons x l =>
    simp only [List.foldr_cons]
    exact fbStep_bd _ _
/-- byte i of a number, from the least on -/
def byteN (N:Int) (i:Nat):Int:=N / 256 ^ i % 256
/-- n bytes, the greatest first -/
def beN (n:Nat) (N:Int):List Int:=(List.range n).map fun p=>byteN N (n - 1 - p)
/-- the bytes of a valid address -/
def addrB (v6:Bool) (hi lo:Int):List Int:=beN (if v6 then 16 else 4) (hi * 18446744073709551616 + lo)
theorem addrB_len (v6:Bool) (hi lo:Int):(addrB v6 hi lo).length=if v6 then 16 else 4:=by unfold addrB;simp [beN]
theorem byteN_bd (N:Int) (i:Nat):0≤byteN N i∧byteN N i≤255:=by unfold byteN;omega
theorem beN_len (n:Nat) (N:Int):(beN n N).length=n:=by simp [beN]
theorem beN_isB (n:Nat) (N:Int):IsB (beN n N):=by
  intro x hx
  simp only [beN,List.mem_map] at hx
  obtain ⟨p,_,rfl⟩:=hx
  exact byteN_bd _ _
theorem u64_or_split {hi lo:Int} (_h0:0≤hi) (l0:0≤lo) (l1:lo < 18446744073709551616) :
    bits .or .u64 (lo / 256) (IntKind.u64.wrap (hi * 72057594037927936))=lo / 256 + hi % 256 * 72057594037927936:=by
  have e:IntKind.u64.wrap (hi * 72057594037927936)=hi % 256 * 72057594037927936:=by rw [IntKind.wrap_u64];omega
  rw [e]
  obtain ⟨a,ha⟩:=Int.eq_ofNat_of_zero_le (show 0≤lo / 256 by omega)
  obtain ⟨b,hb⟩:=Int.eq_ofNat_of_zero_le (show 0≤hi % 256 by omega)
  rw [ha,hb]
  have hb1:(b:Int) * 72057594037927936=((2 ^ 56 * b:Nat):Int):=by omega
  rw [hb1,u64_or_nat a (2 ^ 56 * b) (by omega) (by omega),Nat.or_comm,← Nat.two_pow_add_eq_or_of_lt (i:=56) (by omega) b]
  omega
theorem beN_N (hi lo:Int) (_l0:0≤lo) (_l1:lo < 18446744073709551616):(hi * 18446744073709551616 + lo) / 256=hi / 256 * 18446744073709551616 + (lo / 256 + hi % 256 * 72057594037927936):=by omega
theorem div_succ (N:Int) (j:Nat):N / 256 ^ (j + 1)=N / 256 ^ j / 256:=by
  rw [Int.pow_succ,Int.ediv_ediv_of_nonneg (Int.le_of_lt (Int.pow_pos (by decide)))]
/-- the first j of n bytes -/
def preB (n j:Nat) (N:Int):List Int:=(List.range j).map fun p=>byteN N (n - 1 - p)
theorem preB_len (n j:Nat) (N:Int):(preB n j N).length=j:=by simp [preB]
theorem preB_snoc (n j:Nat) (N:Int):preB n (j + 1) N=preB n j N++[byteN N (n - 1 - j)]:=by simp [preB,List.range_succ]
theorem byteN_at (hi lo:Int) (l1:0≤lo) (l2:lo < 18446744073709551616) (i:Nat) (h:i < 16) :
    (if 8≤i then hi else lo) / 2 ^ (8 * (i % 8)) % 256=byteN (hi * 18446744073709551616 + lo) i:=by
  unfold byteN
  obtain rfl|rfl|rfl|rfl|rfl|rfl|rfl|rfl|rfl|rfl|rfl|rfl|rfl|rfl|rfl|rfl:i=0∨i=1∨i=2∨i=3∨i=4∨i=5∨i=6∨i=7∨i=8∨i=9∨i=10∨i=11∨i=12∨i=13∨i=14∨i=15:=by omega
  all_goals (simp;try omega)
def mostP (v6:Bool):Int:=if v6 then 1460 else 1480
def validP (s d:Ad) (p t:Int) (n:Nat):Bool :=
  validA s.v6 s.hi s.lo && (validA d.v6 d.hi d.lo && ((s.v6 == d.v6) && (decide (0≤p) && (decide (p≤255) && (decide (0≤t) && (decide (t≤255) && decide ((n:Int)≤mostP s.v6)))))))
/-- the length of a header, as its first byte says -/
def hd4 (bs:List Int):Int:=gB bs 0 % 16 * 4
def wh4 (bs:List Int):Int:=gB bs 2 * 256 + gB bs 3
/-- what reading a packet without V6 answers -/
def code4 (n:Nat) (bs:List Int):Int :=
  if n < 20 then 4 else if hd4 bs < 20∨wh4 bs < hd4 bs then 5 else if (n:Int) < wh4 bs then 4 else if sumL (bs.take (hd4 bs).toNat)≠0 then 6 else if (gB bs 6 * 256 + gB bs 7) % 16384≠0 then 5 else 0
def code6 (n:Nat) (bs:List Int):Int:=if n < 40∨(n:Int) < 40 + (gB bs 4 * 256 + gB bs 5) then 4 else 0
theorem u64_shl8 {a x:Int} (ha:U64 a) (hx:0≤x∧x≤255):bits .or .u64 (IntKind.u64.wrap (a * 256)) x=a % 72057594037927936 * 256 + x:=by
  have ha1:0≤a:=ha.1
  have e:IntKind.u64.wrap (a * 256)=a % 72057594037927936 * 256:=by rw [IntKind.wrap_u64];omega
  rw [e]
  obtain ⟨p,hp⟩:=Int.eq_ofNat_of_zero_le (show 0≤a % 72057594037927936 by omega)
  obtain ⟨q,hq⟩:=Int.eq_ofNat_of_zero_le hx.1
  rw [hp,hq]
  have hb1:(p:Int) * 256=((2 ^ 8 * p:Nat):Int):=by omega
  rw [hb1,u64_or_nat (2 ^ 8 * p) q (by omega) (by omega),← Nat.two_pow_add_eq_or_of_lt (i:=8) (by omega) p]
  omega
theorem fbStep_val {a:Int × Int} {x:Int} (h1:U64 a.1) (h2:U64 a.2) (hx:0≤x∧x≤255) :
    (fbStep a x).1 * 18446744073709551616 + (fbStep a x).2=((a.1 * 18446744073709551616 + a.2) * 256 + x) % 340282366920938463463374607431768211456:=by
  obtain ⟨h,l⟩:=a
  simp only at h1 h2
  have e1:(fbStep (h,l) x).1=h % 72057594037927936 * 256 + l / 72057594037927936:=u64_shl8 h1 (by unfold U64 at h2;omega)
  have e2:(fbStep (h,l) x).2=l % 72057594037927936 * 256 + x:=u64_shl8 h2 hx
  rw [e1,e2]
  unfold U64 at h1 h2
  simp only
  omega
theorem beN_take (n k:Nat) (N:Int) (h:k < n):gB (beN n N) k=byteN N (n - 1 - k):=by
  unfold gB beN
  simp [List.getD,h]
theorem pow_le_big {n:Nat} (h:n≤16):(256:Int) ^ n≤340282366920938463463374607431768211456:=by
  have:(256:Nat) ^ n≤256 ^ 16:=Nat.pow_le_pow_right (by omega) h
  have e:((256:Nat) ^ n:Int)=(256:Int) ^ n:=by simp
  omega
theorem fb_beN (n:Nat) (N:Int) (hn:n≤16) (h0:0≤N) (h1:N < 256 ^ n):∀ k,k≤n→(fb ((beN n N).take k)).1 * 18446744073709551616 + (fb ((beN n N).take k)).2=N / 256 ^ (n - k):=by
  have hb:=pow_le_big hn
  intro k
  induction k with
  | zero =>
    intro _
    simp [fb]
    rw [Int.ediv_eq_zero_of_lt h0 h1]
  | succ k ih =>
    intro hk
    have ihk:=ih (by omega)
    have hl:k < (beN n N).length:=by rw [beN_len];omega
    rw [fb_snoc _ _ hl]
    obtain ⟨b1,b2⟩:=fb_bd ((beN n N).take k)
    have hx:0≤gB (beN n N) k∧gB (beN n N) k≤255:=(beN_isB n N).at k
    rw [fbStep_val b1 b2 hx,ihk,beN_take n k N (by omega)]
    have e:n - k=(n - (k + 1)) + 1:=by omega
    have e2:n - 1 - k=n - (k + 1):=by omega
    rw [e,div_succ,e2]
    unfold byteN
    have hX0:0≤N / 256 ^ (n - (k + 1)):=Int.ediv_nonneg h0 (Int.le_of_lt (Int.pow_pos (by decide)))
    have hX1:N / 256 ^ (n - (k + 1))≤N:=Int.ediv_le_self _ h0
    generalize N / 256 ^ (n - (k + 1))=X at *
    omega
theorem fb_addrB {v6:Bool} {hi lo:Int} (hv:validA v6 hi lo=true) (h1:U64 hi) (h2:U64 lo):fb (addrB v6 hi lo)=(hi,lo):=by
  unfold U64 at h1 h2
  obtain ⟨b1,b2⟩:=fb_bd (addrB v6 hi lo)
  unfold U64 at b1 b2
  have hf:addrB v6 hi lo=beN (if v6 then 16 else 4) (hi * 18446744073709551616 + lo):=rfl
  rw [hf] at b1 b2 ⊢
  have key:(fb (beN (if v6 then 16 else 4) (hi * 18446744073709551616 + lo))).1 * 18446744073709551616 + (fb (beN (if v6 then 16 else 4) (hi * 18446744073709551616 + lo))).2=hi * 18446744073709551616 + lo:=by
    cases v6 with
    | true =>
      have hp:(256:Int) ^ 16=340282366920938463463374607431768211456:=by decide
      have:=fb_beN 16 (hi * 18446744073709551616 + lo) (by omega) (by omega) (by omega) 16 (by omega)
      rw [List.take_of_length_le (by rw [beN_len];omega)] at this
      simpa using this
    | false =>
      simp [validA] at hv
      have hp:(256:Int) ^ 4=4294967296:=by decide
      have:=fb_beN 4 (hi * 18446744073709551616 + lo) (by omega) (by omega) (by omega) 4 (by omega)
      rw [List.take_of_length_le (by rw [beN_len];omega)] at this
      simpa using this
  generalize fb (beN (if v6 then 16 else 4) (hi * 18446744073709551616 + lo))=r at *
  obtain ⟨x,y⟩:=r
  simp only at *
  have e1:x=hi:=by omega
  have e2:y=lo:=by omega
  rw [e1,e2]
theorem valid_parts {s d:Ad} {p t:Int} {n:Nat} (h:validP s d p t n=true):validA s.v6 s.hi s.lo=true∧validA d.v6 d.hi d.lo=true∧s.v6=d.v6∧(0≤p∧p≤255)∧(0≤t∧t≤255)∧(n:Int)≤mostP s.v6:=by
  unfold validP at h
  simp only [Bool.and_eq_true,decide_eq_true_eq,beq_iff_eq] at h
  obtain ⟨h1,h2,h3,h4,h5,h6,h7,h8⟩:=h
  exact ⟨h1,h2,h3,⟨h4,h5⟩,⟨h6,h7⟩,h8⟩
theorem most_le (v6:Bool):mostP v6≤1480:=by cases v6<;>decide
end Go.Proofs.YtcidmiacfjdepaaGreatDoor
