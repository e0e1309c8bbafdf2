/- Layer G: texts joined. -/
import Derived.Test.YtnmifekgdkgknaaGreatDoorG01
import Derived.Test.YtnmifekgdkgknaaGreatDoorG13
import Derived.Test.YtnmifekgdkgknaaGreatDoorG14
import Derived.Test.YtnmifekgdkgknaaGreatDoorG11
set_option linter.unusedVariables false
set_option linter.unusedSimpArgs false
set_option linter.unnecessarySimpa false
namespace Go.Proofs.YtnmifekgdkgknaaGreatDoor
def dig (b n:Nat):List Nat :=
 if h:n=0 \/ b < 2 then [] else n % b :: dig b (n / b)
termination_by n
decreasing_by
 have h1:n ≠ 0:=fun e=>h (.inl e)
 have h2:¬ b < 2:=fun e=>h (.inr e)
 exact Nat.div_lt_self (by omega) (by omega)
theorem dig_zero (b:Nat):dig b 0=[]:=by rw [dig];simp
theorem dig_pos {b n:Nat} (hb:2 <= b) (hn:n ≠ 0):dig b n=n % b :: dig b (n / b):=by
 rw [dig,dif_neg (by omega)]
theorem dig_len_lt {b:Nat} (hb:2 <= b) (i:Nat):∀ n,i < (dig b n).length ↔ b ^ i <= n:=by
 induction i with
 | zero =>
   intro n
   by_cases hn:n=0
   ·subst hn;simp [dig_zero]
   ·rw [dig_pos hb hn];simp;omega
 | succ i ih =>
   intro n
   by_cases hn:n=0
   ·subst hn
    have:0 < b ^ (i+1):=Nat.pow_pos (by omega)
    simp [dig_zero];omega
   ·rw [dig_pos hb hn]
    simp only [List.length_cons,Nat.add_lt_add_iff_right];rw [ih,Nat.le_div_iff_mul_le (by omega),Nat.pow_succ]
theorem sum_digit {b:Nat} (hb:2 <= b) (x y i:Nat) :
 (x / b ^ i % b+y / b ^ i % b+(x % b ^ i+y % b ^ i) / b ^ i) % b=(x+y) / b ^ i % b ∧
 (x / b ^ i % b+y / b ^ i % b+(x % b ^ i+y % b ^ i) / b ^ i) / b=(x % b ^ (i+1)+y % b ^ (i+1)) / b ^ (i+1):=by
 have hp:0 < b ^ i:=Nat.pow_pos (by omega)
 have e1:(x+y) / b ^ i=x / b ^ i+y / b ^ i+(x % b ^ i+y % b ^ i) / b ^ i:=by
  have hx:=Nat.div_add_mod x (b ^ i);have hy:=Nat.div_add_mod y (b ^ i)
  have:x+y=x % b ^ i+y % b ^ i+b ^ i*(x / b ^ i+y / b ^ i):=by
   rw [Nat.mul_add];omega
  rw [this,Nat.add_mul_div_left _ _ hp];omega
 constructor
 ·rw [e1]
  simp [Nat.add_mod]
 ·have hx:x % b ^ (i+1)=x % b ^ i+b ^ i*(x / b ^ i % b):=Nat.mod_pow_succ
  have hy:y % b ^ (i+1)=y % b ^ i+b ^ i*(y / b ^ i % b):=Nat.mod_pow_succ;rw [hx,hy,Nat.pow_succ,<- Nat.div_div_eq_div_mul];congr 1
  have:x % b ^ i+b ^ i*(x / b ^ i % b)+(y % b ^ i+b ^ i*(y / b ^ i % b))=x % b ^ i+y % b ^ i+b ^ i*(x / b ^ i % b+y / b ^ i % b):=by rw [Nat.mul_add];omega
  rw [this,Nat.add_mul_div_left _ _ hp];omega
theorem mul_digit {b:Nat} (hb:2 <= b) (x k i:Nat) :
 (x / b ^ i % b*k+x % b ^ i*k / b ^ i) % b=x*k / b ^ i % b /\ (x / b ^ i % b*k+x % b ^ i*k / b ^ i) / b=x % b ^ (i+1)*k / b ^ (i+1):=by
 have hp:0 < b ^ i:=Nat.pow_pos (by omega)
 have e1:x*k / b ^ i=x / b ^ i*k+x % b ^ i*k / b ^ i:=by
  have hx:=Nat.div_add_mod x (b ^ i)
  have:x*k=x % b ^ i*k+b ^ i*(x / b ^ i*k):=by
   rw [<- Nat.mul_assoc,<- Nat.add_mul];congr 1;omega
  rw [this,Nat.add_mul_div_left _ _ hp];omega
 constructor
 ·rw [e1]
  simp [Nat.add_mod,Nat.mul_mod]
 ·have hx:x % b ^ (i+1)=x % b ^ i+b ^ i*(x / b ^ i % b):=Nat.mod_pow_succ
  rw [hx,Nat.pow_succ,<- Nat.div_div_eq_div_mul];congr 1
  have:(x % b ^ i+b ^ i*(x / b ^ i % b))*k=x % b ^ i*k+b ^ i*(x / b ^ i % b*k):=by rw [Nat.add_mul,Nat.mul_assoc]
  rw [this,Nat.add_mul_div_left _ _ hp];omega
theorem cmp_digit {b:Nat} (hb:2 <= b) {x y i:Nat} (h:x / b ^ (i+1)=y / b ^ (i+1)) :
 (x / b ^ i % b=y / b ^ i % b -> x / b ^ i=y / b ^ i) /\ (x / b ^ i % b < y / b ^ i % b -> x < y):=by
 have hp:0 < b ^ i:=Nat.pow_pos (by omega);have ex:=Nat.div_add_mod (x / b ^ i) b;have ey:=Nat.div_add_mod (y / b ^ i) b;rw [Nat.div_div_eq_div_mul,<- Nat.pow_succ] at ex ey;rw [h] at ex;refine ⟨fun e=>by rw [<- ex,<- ey,e],fun e=>?_⟩
 have h1:x / b ^ i < y / b ^ i:=by
  generalize b*(y / b ^ (i+1))=z at ex ey;omega
 exact Nat.lt_of_not_le fun hle=>by
  have:=Nat.div_le_div_right (c:=b ^ i) hle
  omega
end Go.Proofs.YtnmifekgdkgknaaGreatDoor
namespace Go.Proofs.YtnmifekgdkgknaaGreatDoor
open Go.RowKit
def DigAt (w:World) (F:Nat -> Prop) (b n:Nat) (ad:Option Addr):Prop :=
 ∀ i,i < (dig b n).length -> ∃ g o,ad=some ⟨g,o,none⟩ /\ F g /\ w.cell? ⟨g,o+i,none⟩=some (.int .i64 ((n / b ^ i % b:Nat):Int))
theorem DigAt.keeps {S F:Nat -> Prop} {w w':World} {b n:Nat} {ad:Option Addr} (h:DigAt w F b n ad) (hk:Keeps S w w') (hS:∀ k,F k -> ¬ S k):DigAt w' F b n ad:=by
 intro i hi
 obtain ⟨g,o,e,hg,c0⟩:=h i hi;exact ⟨g,o,e,hg,hk.cell (p:=⟨g,_,none⟩) (hS g hg) c0⟩
theorem DigAt.mono {F F':Nat -> Prop} {w:World} {b n:Nat} {ad:Option Addr} (h:DigAt w F b n ad) (hF:∀ k,F k -> F' k):DigAt w F' b n ad:=by
 intro i hi
 obtain ⟨g,o,e,hg,c0⟩:=h i hi;exact ⟨g,o,e,hF g hg,c0⟩
theorem DigAt.zero (w:World) (F:Nat -> Prop) (b:Nat) (ad:Option Addr):DigAt w F b 0 ad:=by
 intro i hi;rw [dig_zero] at hi;cases hi
def digs (b m n:Nat):List Value:=(List.range n).map fun j=>.int .i64 ((m / b ^ j % b:Nat):Int)
theorem digs_succ (b m n:Nat):digs b m (n+1)=digs b m n++[.int .i64 ((m / b ^ n % b:Nat):Int)]:=by
 unfold digs;rw [List.range_succ,List.map_append];rfl
theorem DigAt.ofRow {w:World} {F:Nat -> Prop} {b m n cap:Nat} {ty:TypeId} {ad:Option Addr} (h:w.ownsRow 0 ty 1 (.slice ad n cap) n (digs b m n)) (hn:n=(dig b m).length) (hF:∀ kb,(Value.slice ad n cap).ownBlock=some kb -> F kb):DigAt w F b m ad:=by
 intro i hi
 rw [<- hn] at hi;obtain ⟨g,c,hv,_,_⟩:=h.form (by omega);cases hv;have hr:=RowAt.ofOwns h;refine ⟨g,0,rfl,hF g rfl,?_⟩
 rw [Nat.zero_add];refine hr.cell ?_
 unfold digs;rw [List.getElem?_map,List.getElem?_range hi];rfl
theorem dig_le {b n i:Nat} (hb:2 <= b) (h:n < b ^ i):(dig b n).length <= i:=by
 rcases Nat.lt_or_ge i (dig b n).length with h1 | h1
 ·have:=(dig_len_lt hb i n).1 h1;omega
 ·exact h1
theorem dig_past {b n i:Nat} (hb:2 <= b) (h:(dig b n).length <= i):n / b ^ i % b=0:=by
 have h1:¬ b ^ i <= n:=fun e=>by have:=(dig_len_lt hb i n).2 e;omega
 rw [Nat.div_eq_of_lt (by omega)];exact Nat.zero_mod b
theorem run_small {b:Nat} (hb:2 <= b) (n i:Nat):0 < n / b ^ i ↔ i < (dig b n).length:=by
 rw [dig_len_lt hb,Nat.div_pos_iff];have:0 < b ^ i:=Nat.pow_pos (by omega)
 exact ⟨fun h=>h.2,fun h=>⟨this,h⟩⟩
theorem run_plus {b:Nat} (hb:2 <= b) (x y i:Nat):(i < max (dig b x).length (dig b y).length \/ 0 < (x % b ^ i+y % b ^ i) / b ^ i) ↔ i < (dig b (x+y)).length:=by
 have hp:0 < b ^ i:=Nat.pow_pos (by omega);have h1:=dig_len_lt hb i x;have h2:=dig_len_lt hb i y;rw [dig_len_lt hb,Nat.div_pos_iff];constructor
 ·rintro (h | h)
  ·rcases (show i < (dig b x).length \/ i < (dig b y).length by omega) with h | h
   ·have:=h1.1 h;omega
   ·have:=h2.1 h;omega
  ·have:=Nat.mod_le x (b ^ i);have:=Nat.mod_le y (b ^ i);omega
 ·intro h
  by_cases hx:b ^ i <= x
  ·have:=h1.2 hx;left;omega
  ·by_cases hy:b ^ i <= y
   ·have:=h2.2 hy;left;omega
   ·right;rw [Nat.mod_eq_of_lt (by omega),Nat.mod_eq_of_lt (by omega)];exact ⟨hp,h⟩
theorem run_times {b:Nat} (hb:2 <= b) (x k i:Nat) (hk:0 < k):(i < (dig b x).length \/ 0 < x % b ^ i*k / b ^ i) ↔ i < (dig b (x*k)).length:=by
 have hp:0 < b ^ i:=Nat.pow_pos (by omega);have h1:=dig_len_lt hb i x;have h3:x <= x*k:=Nat.le_mul_of_pos_right x hk;rw [dig_len_lt hb i (x*k),Nat.div_pos_iff];constructor
 ·rintro (h | h)
  ·have:=h1.1 h;omega
  ·have:=Nat.mul_le_mul_right k (Nat.mod_le x (b ^ i));omega
 ·intro h
  by_cases hx:b ^ i <= x
  ·have:=h1.2 hx;left;omega
  ·right;rw [Nat.mod_eq_of_lt (by omega)];exact ⟨hp,h⟩
theorem carry_plus {b:Nat} (hb:2 <= b) (x y i:Nat):(x % b ^ i+y % b ^ i) / b ^ i < 2:=by
 have hp:0 < b ^ i:=Nat.pow_pos (by omega);have h1:=Nat.mod_lt x hp;have h2:=Nat.mod_lt y hp;rw [Nat.div_lt_iff_lt_mul hp];omega
theorem carry_times {b:Nat} (hb:2 <= b) (x k i:Nat) (hk:0 < k):x % b ^ i*k / b ^ i < k:=by
 have hp:0 < b ^ i:=Nat.pow_pos (by omega);have h1:=Nat.mod_lt x hp;rw [Nat.div_lt_iff_lt_mul hp,Nat.mul_comm k];exact Nat.mul_lt_mul_of_pos_right h1 hk
theorem digit_lt {b:Nat} (hb:2 <= b) (x i:Nat):x / b ^ i % b < b:=Nat.mod_lt _ (by omega)
theorem infoInt:(Tryz.prog.info? 3).map (fun i=>(i.zero,i.size,i.bytes))=some (some (.int .i64 0),1,8):=by kernel_rfl
def NewNum (b m:Nat) (w:World) (r:Ending) (w':World):Prop :=
 ∃ ad cap,r=.returned (.slice ad (dig b m).length cap) /\ DigAt w' (Since w.heap.size w') b m ad /\ Keeps NoBlk w w'
theorem grow {b m i dc2:Nat} {da da2:Option Addr} {dc:Nat} {w wr w4:World} {z:Value} {o:Obj} (HO:wr.ownsRow 0 3 1 (.slice da i dc) i (digs b m i)) (HK:Keeps NoBlk w wr) (HB:∀ kb,(Value.slice da i dc).ownBlock=some kb -> w.heap.size <= kb)
 (hz:z=.int .i64 ((m / b ^ i % b:Nat):Int)) (HA:AppOut (wr.alloc o) 0 3 1 (.slice da i dc) (i+1) (digs b m i++[z]) da2 dc2 w4) :
 w4.ownsRow 0 3 1 (.slice da2 (i+1) dc2) (i+1) (digs b m (i+1)) /\ Keeps NoBlk w w4 /\ ∀ kb,(Value.slice da2 (i+1) dc2).ownBlock=some kb -> w.heap.size <= kb:=by
 subst hz;refine ⟨?_,?_,?_⟩
 ·have h1:=HA.1
  rw [<- digs_succ] at h1;exact h1
 ·exact AppOut.keeps HA (HK.alloc _) (fun q e hq=>by have:=HB q e;omega)
 ·intro kb e
  rcases HA.2.2 kb e with h1 | h1
  ·exact HB kb h1
  ·rw [h1];have:=HK.size;simp;omega
set_option maxRecDepth 8000 in
theorem small_any (n:Nat) (hn:n < 9000000000000000000) (w:World):Calls Tryz.prog 79 #[.int .i64 n] w (NewNum 1000000000 n w):=by
 obtain ⟨j0,hj0,hz0,hz1,hz2⟩:=info_parts infoInt;obtain ⟨N,hN⟩:∃ N,N=(dig 1000000000 n).length:=⟨_,rfl⟩
 have HN:=Lib.hid hN;have hN2:N <= 64:=by rw [hN];exact dig_le (by decide) (Nat.lt_of_lt_of_le hn (by decide))
 unfold NewNum;rw [<- hN];clear hN;go_enter Tryz.func79,Tryz.ntmps79
 go_wp2_with fail
 go_loopw [0,3] (fun nv ov wr=>∃ (i m:Nat) (da:Option Addr) (dc:Nat),i <= N /\ nv=.int .i64 m /\ ov=.slice da i dc /\ Hid (m=n / 1000000000 ^ i) /\ m < 9000000000000000000 /\ Hid (wr.ownsRow 0 3 1 (.slice da i dc) i (digs 1000000000 n i)) /\ Hid (Keeps NoBlk w wr) /\ Hid (∀ kb,(Value.slice da i dc).ownBlock=some kb -> w.heap.size <= kb)) (fun nv _ _=>(intOf nv).toNat)
 case atStart=>exact ⟨0,n,none,0,Nat.zero_le _,rfl,rfl,by show _=_;simp,hn,World.ownsRow_nil _ _ _ _,Keeps.refl _ _,fun kb e=>by simp [Value.ownBlock] at e⟩
 case round =>
  obtain ⟨i,m,da,dc,hi,rfl,rfl,HM,hm9,HO,HK,HB⟩:=hrel;have hrun:=run_small (b:=1000000000) (by decide) n i;rw [<- HM.out,<- HN.out] at hrun;by_cases hlt:0 < m
  ·have i1:(0:Int) < m:=by omega
   have hiN:=hrun.1 hlt;have HD:Hid (m % 1000000000=n / 1000000000 ^ i % 1000000000 /\ m / 1000000000=n / 1000000000 ^ (i+1)):=⟨by rw [HM.out],by rw [HM.out,Nat.div_div_eq_div_mul,Nat.pow_succ]⟩;clear hrun;go_wp2_with (at_builtin;refine wpList_append_src _ (by rfl) _ _ 130 (by rfl) 0 3 j0 _ 1 8 Tryz.underlying130 hj0 hz0 hz1 hz2 rfl (by decide) (.slice da i dc) i (digs 1000000000 n i) (by rfl) (ownsRow_keeps HO.out ((Keeps.refl NoBlk wr).alloc _) (fun _ _ h=>h)) (.slice (some ⟨wr.heap.size,0,none⟩) 1 1) 1 _ (by rfl) (RowAt.src (RowAt.ofBlock (heap_alloc_new wr _))) rfl (by intro q hq;simp only [List.mem_cons,List.not_mem_nil,or_false] at hq;rcases hq with rfl;rfl) (by unfold maxLen;omega) (by omega) (Nat.zero_le _) ?_;intro da2 dc2 w4 ha;have HA:=Lib.hid ha;clear ha)
   go_roundw
   case rel =>
    obtain ⟨g1,g2,g3⟩:=grow HO.out HK.out HB.out (by rw [<- HD.out.1];congr 1 <;> omega) HA.out;exact ⟨i+1,m / 1000000000,da2,dc2,by omega,by first | rfl | (congr 1 <;> omega),by go_num,HD.out.2,by omega,g1,g2,g3⟩
   case measure=>simp [intOf];omega
  ·have h0:m=0:=by omega
   subst h0
   have hiN:i=N:=by
    rcases Nat.lt_or_ge i N with h | h
    ·have:=hrun.2 h;omega
    ·omega
   subst hiN;go_wp2_with fail
   go_ret
   exact ⟨da,dc,by go_num,DigAt.ofRow HO.out HN.out (fun kb e=>⟨HB.out kb e,ownsRow_lt HO.out e⟩),HK.out⟩
theorem digit_any (b:Nat) (hb:2 <= b) (n:Nat) (i:Nat) (w:World) (F:Nat -> Prop) (ad:Option Addr) (cap:Nat) (h:DigAt w F b n ad) :
 Calls Tryz.prog 99 #[.slice ad (dig b n).length cap, .int .i64 i] w fun e w'=>e=.returned (.int .i64 ((n / b ^ i % b:Nat):Int)) /\ w=w':=by
 by_cases hi:i < (dig b n).length
 ·obtain ⟨g,o,e,hg,c0⟩:=h i hi
  subst e;generalize n / b ^ i % b=d at c0 ⊢;generalize (dig b n).length=l at hi ⊢;have i1:(0:Int) <= i:=by omega
  have i2:(i:Int) < l:=by omega
  clear h;go_enter Tryz.func99,Tryz.ntmps99
  go_wp2_with fail
  go_ret
  exact ⟨rfl,rfl⟩
 ·rw [dig_past hb (by omega)]
  generalize (dig b n).length=l at hi ⊢;have i2:¬ (i:Int) < l:=by omega
  clear h;go_enter Tryz.func99,Tryz.ntmps99
  go_wp2_with fail
  go_ret
  exact ⟨rfl,rfl⟩
theorem clx_d (x:Ex) (ad:Option Addr) (cap:Nat) (w:World) (c d b:Nat) (hd:d < 1500000000) (hb:b < 1500000000) (h:RowAt w c [.int .i64 b]) :
 Calls Tryz.prog 131 #[exV x ad cap, .int .i64 d, .pointer (some ⟨c,0,none⟩)] w fun e w'=>e=.returned (.tuple #[]) /\ RowAt w' c [.int .i64 (max b d:Nat)] /\ Keeps (fun q=>q=c) w w':=by
 show Calls _ _ #[.agg #[.int .i64 x.kind, .int .i64 x.num, .string x.nm, .slice ad x.args.length cap],_,_] _ _
 have HC:=Lib.hid h;have hlt:=h.lt (by simp);clear h;have hmx:max (b:Int) (d:Int)=((max b d:Nat):Int):=by omega
 go_enter Tryz.func131,Tryz.ntmps131
 go_upto_region 1 with fail
 have k1:Keeps NoBlk w (w.alloc (.cells #[.int .i64 x.kind, .int .i64 x.num, .string x.nm, .slice ad x.args.length cap] 72)):=(Keeps.refl _ _).alloc _;generalize w.alloc (.cells #[.int .i64 x.kind, .int .i64 x.num, .string x.nm, .slice ad x.args.length cap] 72)=w1 at k1 ⊢;have rc:=HC.out.keeps k1 (fun h=>h);have cc:=rc.cell (k:=0) (v:=.int .i64 b) rfl;have fc:=rc.free (k:=0) (by simp);have RC:=Lib.hid rc;have K1:=Lib.hid k1;clear rc k1;go_wp2_with fail
 go_end0
 refine ⟨rfl,?_,(K1.out.mono (S:=fun q=>q=c) (fun _ _ h=>False.elim h)).setCell (p:=⟨c,0,none⟩) (fun _=>rfl) _⟩
 exact RC.out.set 0 (by simp) _
theorem cls_d (x:St) (xa ta ea:Option Addr) (xc tc ec:Nat) (w:World) (c d b:Nat) (hd:d < 1500000000) (hb:b < 1500000000) (h:RowAt w c [.int .i64 b]) :
 Calls Tryz.prog 130 #[stV x xa xc ta tc ea ec, .int .i64 d, .pointer (some ⟨c,0,none⟩)] w fun e w'=>e=.returned (.tuple #[]) /\ RowAt w' c [.int .i64 (max b d:Nat)] /\ Keeps (fun q=>q=c) w w':=by
 show Calls _ _ #[.agg #[.int .i64 x.kind, .string x.reg, .string x.name, .int .i64 x.ex.kind, .int .i64 x.ex.num, .string x.ex.nm, .slice xa x.ex.args.length xc, .int .i64 x.count, .slice ta x.thn.length tc, .slice ea x.els.length ec],_,_] _ _
 have HC:=Lib.hid h;have hlt:=h.lt (by simp);clear h;have hmx:max (b:Int) (d:Int)=((max b d:Nat):Int):=by omega
 go_enter Tryz.func130,Tryz.ntmps130
 go_upto_region 1 with fail
 have k1:Keeps NoBlk w (w.alloc (.cells #[.int .i64 x.kind, .string x.reg, .string x.name, .int .i64 x.ex.kind, .int .i64 x.ex.num, .string x.ex.nm, .slice xa x.ex.args.length xc, .int .i64 x.count, .slice ta x.thn.length tc, .slice ea x.els.length ec] 152)):=(Keeps.refl _ _).alloc _;generalize w.alloc (.cells #[.int .i64 x.kind, .string x.reg, .string x.name, .int .i64 x.ex.kind, .int .i64 x.ex.num, .string x.ex.nm, .slice xa x.ex.args.length xc, .int .i64 x.count, .slice ta x.thn.length tc, .slice ea x.els.length ec] 152)=w1 at k1 ⊢;have rc:=HC.out.keeps k1 (fun h=>h);have cc:=rc.cell (k:=0) (v:=.int .i64 b) rfl;have fc:=rc.free (k:=0) (by simp);have RC:=Lib.hid rc;have K1:=Lib.hid k1;clear rc k1;go_wp2_with fail
 go_end0
 refine ⟨rfl,?_,(K1.out.mono (S:=fun q=>q=c) (fun _ _ h=>False.elim h)).setCell (p:=⟨c,0,none⟩) (fun _=>rfl) _⟩
 exact RC.out.set 0 (by simp) _
theorem exprs_d:∀ (x:Ex) (w:World) (F:Nat -> Prop) (ad:Option Addr) (cap c d:Nat) (b:Nat),ExsAt w F x.args ad -> ¬ F c -> RowAt w c [(.int .i64 b)] -> d+x.cnt < 1000000000 -> b < 1000000000 →
 Calls Tryz.prog 145 #[.agg #[.func (.func 130) #[] #[.pointer (some ⟨c,0,none⟩)], .func (.func 131) #[] #[.pointer (some ⟨c,0,none⟩)]],exV x ad cap, .int .i64 d] w fun e w'=>e=.returned (.tuple #[]) /\ RowAt w' c [(.int .i64 ((max b (Ex.deepAt d x)):Nat))] /\ Keeps (fun q=>q=c) w w':=by
 refine Ex.ind (fun k num nm l ih w F ad cap c d b h hF hc hb hbb=>?_)
 have HL:Hid (ExsAt w F l ad):=h;have IH:=Lib.hid ih;have HF:=Lib.hid hF;have HCR:=Lib.hid hc;have hl:=Ex.len_le l;have hcn:Ex.cnt (.mk k num nm l)=1+Ex.cntL l:=by simp [Ex.cnt]
 rw [hcn] at hb;have hb2:l.length < 1000000000:=by omega
 have hd2:d < 1000000000:=by omega
 have HB:=Lib.hid hb;have HBB:=Lib.hid hbb;obtain ⟨tot,ht⟩:∃ t:Nat,t=(max b (Ex.deepAt d (Ex.mk k num nm l))):=⟨_,rfl⟩
 have HT:Hid ((max (max b d) (Ex.deepAtL (d+1) l))=tot):=by
  show _=_
  rw [ht];simp only [Ex.deepAt];omega
 rw [<- ht];have HCL:Hid (∀ W,RowAt W c [(.int .i64 b)] -> Calls Tryz.prog 131 #[.agg #[.int .i64 k, .int .i64 num, .string nm, .slice ad l.length cap], .int .i64 d, .pointer (some ⟨c,0,none⟩)] W fun e w'=>e=.returned (.tuple #[]) /\ RowAt w' c [(.int .i64 (max b d:Nat))] /\ Keeps (fun q=>q=c) W w'):=fun W h=>clx_d (.mk k num nm l) ad cap W c d b (by omega) (by omega) h
 have hlt0:=hc.lt (by simp);have hlt:=Lib.hid hlt0;clear h hF hc ih hl hcn hb ht hlt0 hbb;show Calls _ _ #[_, .agg #[.int .i64 k, .int .i64 num, .string nm, .slice ad l.length cap],_] _ _
 have hw:IntKind.i64.wrap ((d:Int)+1)=(d:Int)+1:=wrap_small _ (by omega) (by omega);go_enter Tryz.func145,Tryz.ntmps145
 go_upto_region 1 with fail
 obtain ⟨b3,hb3⟩:∃ z,z=w.heap.size:=⟨_,rfl⟩
 obtain ⟨b4,hb4⟩:∃ z,z=w.heap.size+1:=⟨_,rfl⟩
 have hr3:RowAt ((w.alloc (.cells #[.func (.func 130) #[] #[.pointer (some ⟨c,0,none⟩)], .func (.func 131) #[] #[.pointer (some ⟨c,0,none⟩)]] 189)).alloc (.cells #[.int .i64 k, .int .i64 num, .string nm, .slice ad l.length cap] 72)) b3 [.func (.func 130) #[] #[.pointer (some ⟨c,0,none⟩)], .func (.func 131) #[] #[.pointer (some ⟨c,0,none⟩)]]:=by rw [hb3];exact (RowAt.ofBlock (heap_alloc_new w _)).alloc _
 have hr4:RowAt ((w.alloc (.cells #[.func (.func 130) #[] #[.pointer (some ⟨c,0,none⟩)], .func (.func 131) #[] #[.pointer (some ⟨c,0,none⟩)]] 189)).alloc (.cells #[.int .i64 k, .int .i64 num, .string nm, .slice ad l.length cap] 72)) b4 [.int .i64 k, .int .i64 num, .string nm, .slice ad l.length cap]:=by rw [hb4];exact RowAt.ofBlock (heap_alloc2 w _ _)
 have hk1:Keeps NoBlk w ((w.alloc (.cells #[.func (.func 130) #[] #[.pointer (some ⟨c,0,none⟩)], .func (.func 131) #[] #[.pointer (some ⟨c,0,none⟩)]] 189)).alloc (.cells #[.int .i64 k, .int .i64 num, .string nm, .slice ad l.length cap] 72)):=((Keeps.refl _ _).alloc _).alloc _;rw [<- hb4,<- hb3];generalize (w.alloc (.cells #[.func (.func 130) #[] #[.pointer (some ⟨c,0,none⟩)], .func (.func 131) #[] #[.pointer (some ⟨c,0,none⟩)]] 189)).alloc (.cells #[.int .i64 k, .int .i64 num, .string nm, .slice ad l.length cap] 72)=w1 at hr3 hr4 hk1 ⊢;have HNE:Hid (b3 ≠ c /\ b4 ≠ c):=⟨by have:=hlt.out;omega,by have:=hlt.out;omega⟩;have R3:=Lib.hid hr3;have R4:=Lib.hid hr4;have K1:=Lib.hid hk1;have RC:Hid (RowAt w1 c [(.int .i64 b)]):=HCR.out.keeps hk1 (fun h=>h);have y0:=hr3.cell (k:=1) (v:=.func (.func 131) #[] #[.pointer (some ⟨c,0,none⟩)]) rfl;obtain ⟨d0,d1,d2,d3⟩:=hr4.four;clear hr3 hr4 hk1 hb3 hb4;go_upto_region 2 with (go_at_call 131;refine (HCL.out _ RC.out).mono ?_;rintro e w2 ⟨rfl,r2,g2⟩;have R2:=Lib.hid r2;have G2:=Lib.hid g2;clear r2 g2)
 have c3:=(R4.out.keeps G2.out (fun e=>HNE.out.2 e)).cell (k:=3) (v:=.slice ad l.length cap) rfl;clear d0 d1 d2 d3 y0 RC HCL HCR;go_wp2_with fail
 go_loopw [16] (fun iv wr=>∃ (i:Nat) (v:Nat),i <= l.length /\ iv=.int .i64 i /\ Hid (RowAt wr c [(.int .i64 v)]) /\ Hid ((max v (Ex.deepAtL (d+1) (l.drop i)))=tot) /\ Hid (Keeps (fun q=>q=c) w1 wr)) (fun iv _=>l.length - (intOf iv).toNat)
 case atStart=>exact ⟨0,(max b d),Nat.zero_le _,rfl,R2,by show _=_;rw [List.drop_zero];exact HT.out,G2⟩
 case round =>
  obtain ⟨i,v,hi,rfl,HV,HD,HK⟩:=hrel;by_cases hlt:i < l.length
  ·have i1:(0:Int) <= i:=by omega
   have i2:(i:Int) < l.length:=by omega
   have hd:=HD.out;rw [drop_at hlt] at hd;simp only [Ex.deepAtL] at hd;have hFc:∀ q,F q -> ¬ (fun q=>q=c) q:=fun q hq e=>HF.out (by have e':q=c:=e;rw [<- e'];exact hq)
   obtain ⟨g,o,a,ca,e1,hg,d0,d1,d2,d3,hx⟩:=((HL.out.keeps K1.out (fun _ _ h=>h):ExsAt w1 F l ad).keeps HK.out hFc).at hlt;subst e1
   have HC:Hid (∀ W,Keeps NoBlk wr W -> Calls Tryz.prog 145 #[.agg #[.func (.func 130) #[] #[.pointer (some ⟨c,0,none⟩)], .func (.func 131) #[] #[.pointer (some ⟨c,0,none⟩)]], .agg #[.int .i64 l[i].kind, .int .i64 l[i].num, .string l[i].nm, .slice a l[i].args.length ca], .int .i64 ((d:Int)+1)] W fun e w'=>e=.returned (.tuple #[]) /\ RowAt w' c [(.int .i64 ((max v (Ex.deepAt (d+1) l[i])):Nat))] /\ Keeps (fun q=>q=c) W w'):=fun W hk=>by
    have e:((d+1:Nat):Int)=(d:Int)+1:=by omega
    rw [<- e];have hcl:=Ex.cnt_mem (List.getElem_mem hlt);have hbt:=HB.out;have hdt:=HD.out;have hbb:=HBB.out;have htt:=HT.out;have hle:=Ex.deepAtL_eq (d+1) l;have hdl:Ex.depL l <= Ex.cntL l:=by have:=Ex.dep_le (.mk 0 0 noNm l);simp only [Ex.dep,Ex.cnt] at this;omega
    exact IH.out _ (List.getElem_mem hlt) W F a ca c (d+1) v (hx.keeps hk (fun _ _ h=>h)) HF.out (HV.out.keeps hk (fun h=>h)) (by omega) (by split at hle <;> omega)
   obtain ⟨v2,hv2⟩:∃ v2:Nat,v2=(max v (Ex.deepAt (d+1) l[i])):=⟨_,rfl⟩
   have HD2:Hid ((max v2 (Ex.deepAtL (d+1) (l.drop (i+1))))=tot):=by
    show _=_
    rw [hv2,<- hd];omega
   rw [<- hv2] at HC;clear hx hFc hd hv2;generalize l[i].kind=x0 at d0 HC;generalize l[i].num=x1 at d1 HC;generalize l[i].nm=x2 at d2 HC;generalize l[i].args.length=x3 at d3 HC;go_upto_region 5 with fail
   obtain ⟨b7,hb7⟩:∃ z,z=wr.heap.size:=⟨_,rfl⟩
   have hr7:RowAt (wr.alloc (.cells #[.int .i64 x0, .int .i64 x1, .string x2, .slice a x3 ca] 72)) b7 [.int .i64 x0, .int .i64 x1, .string x2, .slice a x3 ca]:=by rw [hb7];exact RowAt.ofBlock (heap_alloc_new wr _)
   have hk7:Keeps NoBlk wr (wr.alloc (.cells #[.int .i64 x0, .int .i64 x1, .string x2, .slice a x3 ca] 72)):=(Keeps.refl _ _).alloc _;rw [<- hb7];generalize wr.alloc (.cells #[.int .i64 x0, .int .i64 x1, .string x2, .slice a x3 ca] 72)=w7 at hr7 hk7 ⊢;obtain ⟨y0,y1,y2,y3⟩:=hr7.four;have r3:=(R3.out.keeps HK.out (fun e=>HNE.out.1 e)).keeps hk7 (fun h=>h);have q0:=r3.cell (k:=0) (v:=.func (.func 130) #[] #[.pointer (some ⟨c,0,none⟩)]) rfl;have q1:=r3.cell (k:=1) (v:=.func (.func 131) #[] #[.pointer (some ⟨c,0,none⟩)]) rfl;have K7:=Lib.hid hk7;clear hr7 hk7 r3 hb7 d0 d1 d2 d3 c3;go_wp2_with (go_at_call 145;refine (HC.out _ K7.out).mono ?_;rintro e w8 ⟨rfl,r8,g8⟩;have R8:=Lib.hid r8;have G8:=Lib.hid g8;clear r8 g8)
   go_roundw
   case rel=>exact ⟨i+1,v2,by omega,by go_num,R8,HD2,(HK.out.trans K7.out (fun _ _ h=>False.elim h)).trans G8.out (fun _ _ h=>h)⟩
   case measure=>simp [intOf];omega
  ·obtain rfl:i=l.length:=by omega
   have hd:=HD.out;rw [List.drop_length] at hd;simp only [Ex.deepAtL] at hd;have hd2:v=tot:=by rw [<- hd];omega
   subst hd2;go_wp2_with fail
   go_end0
   exact ⟨rfl,HV.out,(K1.out.mono (S:=fun q=>q=c) (fun _ _ h=>False.elim h)).trans HK.out (fun _ _ h=>h)⟩
end Go.Proofs.YtnmifekgdkgknaaGreatDoor
