/- Layer N: texts joined. -/
import Derived.Test.YtoapgjjepiopbaaGreatDoorN11
import Derived.Test.YtoapgjjepiopbaaGreatDoorN12
set_option linter.all false
set_option maxHeartbeats 1000000
set_option maxRecDepth 8000
namespace Go.Proofs.YtoapgjjepiopbaaGreatDoor
open Go.RowKit
theorem J36 (P:Prop) (h:P:=by
 go_ret
 exact ⟨rfl,rfl⟩):P:=h
theorem J51 (P:Prop) (h:P:=by
 have h0:m=0:=by omega
 subst h0
 have hiN:i=N:=by
  rcases Nat.lt_or_ge i N with h | h
  ·have:=hrun.2 h;omega
  ·omega
 subst hiN;go_wp2_with fail
 go_ret
 exact ⟨da,dc,by go_num,zAD.ofRow HO.out HN.out (fun kb e=>⟨HB.out kb e,zS HO.out e⟩),HK.out⟩):P:=h
theorem J106 (P:Prop) (h:P:=by
 intro i hi
 obtain ⟨g,o,e,hg,c0⟩:=h i hi;exact ⟨g,o,e,hg,hk.cell (p:=⟨g,_,none⟩) (hS g hg) c0⟩):P:=h
theorem J111 (P:Prop) (h:P:=by
 cases xs with
 | nil=>rfl
 | cons a r=>obtain ⟨g,o,e2,_⟩:=hc (by simp);rw [e] at e2;cases e2):P:=h
theorem J125 (P:Prop) (h:P:=by
 go_wp2_with fail
 exact J36 _):P:=h
theorem J162 (P:Prop) (h:P:=by first | rfl | (congr 1 <;> omega)):P:=h
theorem J172 (P:Prop) (h:P:=by rw [<- HD.out.1];congr 1 <;> omega):P:=h
def zAD (w:World) (F:Nat -> Prop) (b n:Nat) (ad:Option Addr):Prop :=
 ∀ i,i < (zw b n).length -> ∃ g o,ad=some ⟨g,o,none⟩ /\ F g /\ w.cell? ⟨g,o+i,none⟩=some (.int .i64 ((n / b ^ i % b:Nat):Int))
theorem zAD.keeps {S F:Nat -> Prop} {w w':World} {b n:Nat} {ad:Option Addr} (h:zAD w F b n ad) (hk:Keeps S w w') (hS:∀ k,F k -> ¬ S k):zAD w' F b n ad:=by
 exact J106 _
theorem zAD.mono {F F':Nat -> Prop} {w:World} {b n:Nat} {ad:Option Addr} (h:zAD w F b n ad) (hF:∀ k,F k -> F' k):zAD w F' b n ad:=by
 intro i hi
 obtain ⟨g,o,e,hg,c0⟩:=h i hi;exact ⟨g,o,e,hF g hg,c0⟩
theorem zAD.zero (w:World) (F:Nat -> Prop) (b:Nat) (ad:Option Addr):zAD w F b 0 ad:=by
 intro i hi;rw [zBc] at hi;cases hi
def zBd (b m n:Nat):List Value:=(List.range n).map fun j=>.int .i64 ((m / b ^ j % b:Nat):Int)
theorem zJq (b m n:Nat):zBd b m (n+1)=zBd b m n++[.int .i64 ((m / b ^ n % b:Nat):Int)]:=by
 unfold zBd;rw [List.range_succ,List.map_append];rfl
theorem zAD.ofRow {w:World} {F:Nat -> Prop} {b m n cap:Nat} {ty:TypeId} {ad:Option Addr} (h:w.ownsRow 0 ty 1 (.slice ad n cap) n (zBd b m n)) (hn:n=(zw b m).length) (hF:∀ kb,(Value.slice ad n cap).ownBlock=some kb -> F kb):zAD w F b m ad:=by
 intro i hi
 rw [<- hn] at hi;obtain ⟨g,c,hv,_,_⟩:=h.form (by omega);cases hv;have hr:=zC.zAM h;refine ⟨g,0,rfl,hF g rfl,?_⟩
 rw [Nat.zero_add];refine hr.cell ?_
 unfold zBd;rw [List.getElem?_map,List.getElem?_range hi];rfl
theorem zCg {b n i:Nat} (hb:2 <= b) (h:n < b ^ i):(zw b n).length <= i:=by
 rcases Nat.lt_or_ge i (zw b n).length with h1 | h1
 ·have:=(zZ hb i n).1 h1;omega
 ·exact h1
theorem zEH {b n i:Nat} (hb:2 <= b) (h:(zw b n).length <= i):n / b ^ i % b=0:=by
 have h1:¬ b ^ i <= n:=fun e=>by have:=(zZ hb i n).2 e;omega
 rw [Nat.div_eq_of_lt (by omega)];exact Nat.zero_mod b
theorem zF5 {b:Nat} (hb:2 <= b) (n i:Nat):0 < n / b ^ i ↔ i < (zw b n).length:=by
 rw [zZ hb,Nat.div_pos_iff];have:0 < b ^ i:=Nat.pow_pos (by omega)
 exact ⟨fun h=>h.2,fun h=>⟨this,h⟩⟩
theorem zHU {b:Nat} (hb:2 <= b) (x y i:Nat):(i < max (zw b x).length (zw b y).length \/ 0 < (x % b ^ i+y % b ^ i) / b ^ i) ↔ i < (zw b (x+y)).length:=by
 have hp:0 < b ^ i:=Nat.pow_pos (by omega);have h1:=zZ hb i x;have h2:=zZ hb i y;rw [zZ hb,Nat.div_pos_iff];constructor
 ·rintro (h | h)
  ·rcases (show i < (zw b x).length \/ i < (zw b y).length by omega) with h | h
   ·have:=h1.1 h;omega
   ·have:=h2.1 h;omega
  ·have:=Nat.mod_le x (b ^ i);have:=Nat.mod_le y (b ^ i);omega
 ·intro h
  by_cases hx:b ^ i <= x
  ·have:=h1.2 hx;left;omega
  ·by_cases hy:b ^ i <= y
   ·have:=h2.2 hy;left;omega
   ·right;rw [Nat.mod_eq_of_lt (by omega),Nat.mod_eq_of_lt (by omega)];exact ⟨hp,h⟩
theorem zGF {b:Nat} (hb:2 <= b) (x k i:Nat) (hk:0 < k):(i < (zw b x).length \/ 0 < x % b ^ i*k / b ^ i) ↔ i < (zw b (x*k)).length:=by
 have hp:0 < b ^ i:=Nat.pow_pos (by omega);have h1:=zZ hb i x;have h3:x <= x*k:=Nat.le_mul_of_pos_right x hk;rw [zZ hb i (x*k),Nat.div_pos_iff];constructor
 ·rintro (h | h)
  ·have:=h1.1 h;omega
  ·have:=Nat.mul_le_mul_right k (Nat.mod_le x (b ^ i));omega
 ·intro h
  by_cases hx:b ^ i <= x
  ·have:=h1.2 hx;left;omega
  ·right;rw [Nat.mod_eq_of_lt (by omega)];exact ⟨hp,h⟩
theorem zFH {b:Nat} (hb:2 <= b) (x y i:Nat):(x % b ^ i+y % b ^ i) / b ^ i < 2:=by
 have hp:0 < b ^ i:=Nat.pow_pos (by omega);have h1:=Nat.mod_lt x hp;have h2:=Nat.mod_lt y hp;rw [Nat.div_lt_iff_lt_mul hp];omega
theorem zEq {b:Nat} (hb:2 <= b) (x k i:Nat) (hk:0 < k):x % b ^ i*k / b ^ i < k:=by
 have hp:0 < b ^ i:=Nat.pow_pos (by omega);have h1:=Nat.mod_lt x hp;rw [Nat.div_lt_iff_lt_mul hp,Nat.mul_comm k];exact Nat.mul_lt_mul_of_pos_right h1 hk
theorem zCS {b:Nat} (hb:2 <= b) (x i:Nat):x / b ^ i % b < b:=Nat.mod_lt _ (by omega)
theorem zA8:(Tryz.prog.info? 3).map (fun i=>(i.zero,i.size,i.bytes))=some (some (.int .i64 0),1,8):=by kernel_rfl
def zAz (b m:Nat) (w:World) (r:Ending) (w':World):Prop :=
 ∃ ad cap,r=.returned (.slice ad (zw b m).length cap) /\ zAD w' (Since w.heap.size w') b m ad /\ Keeps zA w w'
theorem grow {b m i dc2:Nat} {da da2:Option Addr} {dc:Nat} {w wr w4:World} {z:Value} {o:Obj} (HO:wr.ownsRow 0 3 1 (.slice da i dc) i (zBd b m i)) (HK:Keeps zA w wr) (HB:∀ kb,(Value.slice da i dc).ownBlock=some kb -> w.heap.size <= kb)
 (hz:z=.int .i64 ((m / b ^ i % b:Nat):Int)) (HA:zi (wr.alloc o) 0 3 1 (.slice da i dc) (i+1) (zBd b m i++[z]) da2 dc2 w4) :
 w4.ownsRow 0 3 1 (.slice da2 (i+1) dc2) (i+1) (zBd b m (i+1)) /\ Keeps zA w w4 /\ ∀ kb,(Value.slice da2 (i+1) dc2).ownBlock=some kb -> w.heap.size <= kb:=by
 subst hz;refine ⟨?_,?_,?_⟩
 ·have h1:=HA.1
  rw [<- zJq] at h1;exact h1
 ·exact zi.keeps HA (HK.alloc _) (fun q e hq=>by have:=HB q e;omega)
 ·intro kb e
  rcases HA.2.2 kb e with h1 | h1
  ·exact HB kb h1
  ·rw [h1];have:=HK.size;simp;omega
theorem zJb (n:Nat) (hn:n < 9000000000000000000) (w:World):Calls Tryz.prog 19 #[.int .i64 n] w (zAz 1000000000 n w):=by
 obtain ⟨j0,hj0,hz0,hz1,hz2⟩:=info_parts zA8;obtain ⟨N,hN⟩:=eX ((zw 1000000000 n).length);have HN:=Lib.hid hN;have hN2:N <= 64:=by rw [hN];exact zCg (by decide) (Nat.lt_of_lt_of_le hn (by decide))
 unfold zAz;rw [<- hN];clear hN;go_enter Tryz.func19,Tryz.ntmps19
 go_wp2_with fail
 go_loopw [0,3] (fun nv ov wr=>∃ (i m:Nat) (da:Option Addr) (dc:Nat),i <= N /\ nv=.int .i64 m /\ ov=.slice da i dc /\ Hid (m=n / 1000000000 ^ i) /\ m < 9000000000000000000 /\ Hid (wr.ownsRow 0 3 1 (.slice da i dc) i (zBd 1000000000 n i)) /\ Hid (Keeps zA w wr) /\ Hid (∀ kb,(Value.slice da i dc).ownBlock=some kb -> w.heap.size <= kb)) (fun nv _ _=>(intOf nv).toNat)
 case atStart=>exact ⟨0,n,none,0,Nat.zero_le _,rfl,rfl,by show _=_;simp,hn,World.ownsRow_nil _ _ _ _,Keeps.refl _ _,fun kb e=>by exact J152 _⟩
 case round =>
  obtain ⟨i,m,da,dc,hi,rfl,rfl,HM,hm9,HO,HK,HB⟩:=hrel;have hrun:=zF5 (b:=1000000000) (by decide) n i;rw [<- HM.out,<- HN.out] at hrun;by_cases hlt:0 < m
  ·have i1:(0:Int) < m:=by omega
   have hiN:=hrun.1 hlt;have HD:Hid (m % 1000000000=n / 1000000000 ^ i % 1000000000 /\ m / 1000000000=n / 1000000000 ^ (i+1)):=⟨by rw [HM.out],by rw [HM.out,Nat.div_div_eq_div_mul,Nat.pow_succ]⟩;clear hrun;go_wp2_with (at_builtin;refine zI _ (by rfl) _ _ 51 (by rfl) 0 3 j0 _ 1 8 Tryz.underlying51 hj0 hz0 hz1 hz2 rfl (by decide) (.slice da i dc) i (zBd 1000000000 n i) (by rfl) (zF HO.out ((Keeps.refl zA wr).alloc _) (fun _ _ h=>h)) (.slice (some ⟨wr.heap.size,0,none⟩) 1 1) 1 _ (by rfl) (zC.src (zC.zG (heap_alloc_new wr _))) rfl (J151 _) (by unfold maxLen;omega) (by omega) (Nat.zero_le _) ?_;intro da2 dc2 w4 ha;have HA:=Lib.hid ha;clear ha)
   go_roundw
   case rel =>
    obtain ⟨g1,g2,g3⟩:=grow HO.out HK.out HB.out (J172 _) HA.out;exact ⟨i+1,m / 1000000000,da2,dc2,by omega,by exact J162 _,by go_num,HD.out.2,by omega,g1,g2,g3⟩
   case measure=>simp [intOf];omega
  ·exact J51 _
theorem zID (n:Nat) (hn:n < 9000000000000000000) (w:World):Calls Tryz.prog 23 #[.int .i64 n] w (zAz 10 n w):=by
 obtain ⟨j0,hj0,hz0,hz1,hz2⟩:=info_parts zA8;obtain ⟨N,hN⟩:=eX ((zw 10 n).length);have HN:=Lib.hid hN;have hN2:N <= 64:=by rw [hN];exact zCg (by decide) (Nat.lt_of_lt_of_le hn (by decide))
 unfold zAz;rw [<- hN];clear hN;go_enter Tryz.func23,Tryz.ntmps23
 go_wp2_with fail
 go_loopw [0,3] (fun nv ov wr=>∃ (i m:Nat) (da:Option Addr) (dc:Nat),i <= N /\ nv=.int .i64 m /\ ov=.slice da i dc /\ Hid (m=n / 10 ^ i) /\ m < 9000000000000000000 /\ Hid (wr.ownsRow 0 3 1 (.slice da i dc) i (zBd 10 n i)) /\ Hid (Keeps zA w wr) /\ Hid (∀ kb,(Value.slice da i dc).ownBlock=some kb -> w.heap.size <= kb)) (fun nv _ _=>(intOf nv).toNat)
 case atStart=>exact ⟨0,n,none,0,Nat.zero_le _,rfl,rfl,by show _=_;simp,hn,World.ownsRow_nil _ _ _ _,Keeps.refl _ _,fun kb e=>by exact J152 _⟩
 case round =>
  obtain ⟨i,m,da,dc,hi,rfl,rfl,HM,hm9,HO,HK,HB⟩:=hrel;have hrun:=zF5 (b:=10) (by decide) n i;rw [<- HM.out,<- HN.out] at hrun;by_cases hlt:0 < m
  ·have i1:(0:Int) < m:=by omega
   have hiN:=hrun.1 hlt;have HD:Hid (m % 10=n / 10 ^ i % 10 /\ m / 10=n / 10 ^ (i+1)):=⟨by rw [HM.out],by rw [HM.out,Nat.div_div_eq_div_mul,Nat.pow_succ]⟩;clear hrun;go_wp2_with (at_builtin;refine zI _ (by rfl) _ _ 22 (by rfl) 0 3 j0 _ 1 8 Tryz.underlying22 hj0 hz0 hz1 hz2 rfl (by decide) (.slice da i dc) i (zBd 10 n i) (by rfl) (zF HO.out ((Keeps.refl zA wr).alloc _) (fun _ _ h=>h)) (.slice (some ⟨wr.heap.size,0,none⟩) 1 1) 1 _ (by rfl) (zC.src (zC.zG (heap_alloc_new wr _))) rfl (J151 _) (by unfold maxLen;omega) (by omega) (Nat.zero_le _) ?_;intro da2 dc2 w4 ha;have HA:=Lib.hid ha;clear ha)
   go_roundw
   case rel =>
    obtain ⟨g1,g2,g3⟩:=grow HO.out HK.out HB.out (J172 _) HA.out;exact ⟨i+1,m / 10,da2,dc2,by omega,by exact J162 _,by go_num,HD.out.2,by omega,g1,g2,g3⟩
   case measure=>simp [intOf];omega
  ·exact J51 _
theorem zCQ (b:Nat) (hb:2 <= b) (n:Nat) (i:Nat) (w:World) (F:Nat -> Prop) (ad:Option Addr) (cap:Nat) (h:zAD w F b n ad) :
 Calls Tryz.prog 47 #[.slice ad (zw b n).length cap, .int .i64 i] w fun e w'=>e=.returned (.int .i64 ((n / b ^ i % b:Nat):Int)) /\ w=w':=by
 by_cases hi:i < (zw b n).length
 ·obtain ⟨g,o,e,hg,c0⟩:=h i hi
  subst e;generalize n / b ^ i % b=d at c0 ⊢;generalize (zw b n).length=l at hi ⊢;have i1:(0:Int) <= i:=by omega
  have i2:(i:Int) < l:=by omega
  clear h;go_enter Tryz.func47,Tryz.ntmps47
  exact J125 _
 ·rw [zEH hb (by omega)]
  generalize (zw b n).length=l at hi ⊢;have i2:¬ (i:Int) < l:=by omega
  clear h;go_enter Tryz.func47,Tryz.ntmps47
  exact J125 _
theorem zKW (xs:List Int):∀ u ∈ ints xs,u.oneCell'=true:=by
 intro u hu
 simp only [ints,List.mem_map] at hu;obtain ⟨k,_,rfl⟩:=hu;rfl
theorem zCm (w:World) (v:Value) (xs:List Int) (h:zU w v xs.length (ints xs)) (hb:xs.length*8 <= 140737488355328) :
 Calls Tryz.prog 59 #[v] w (zB3 3 1 w xs.length (ints xs)):=by
 obtain ⟨i0,hi0,hz0,hz1,hz2⟩:=info_parts zA8;have HS:=Lib.hid h;obtain ⟨ad,cap,rfl,hc⟩:=h
 have h0:ad=none -> xs=[]:=fun e=>by
  exact J111 _
 clear hc;cases ad with
 | none =>
   obtain rfl:=h0 rfl;have hnil:∀ W,(binOp .eql 22 (.slice none 0 cap) (.slice none 0 0)).run Tryz.prog W=.ok (.bool true) W:=fun W=>Lib.run_eql_slice_nil_nil W _ _ Tryz.underlying22
   go_enter Tryz.func59,Tryz.ntmps59
   go_wp2
   go_ret
   exact ⟨none,0,rfl,World.ownsRow_nil _ _ _ _,Keeps.refl _ _,fun kb e=>by exact J152 _⟩
 | some a =>
   clear h0;obtain ⟨n,hn⟩:=eX xs.length;have HL:Hid ((ints xs).length=n*1):=by show _=_;rw [zCX,hn,Nat.mul_one]
   rw [<- hn] at HS hb ⊢;have HB:Hid (n*8 <= 140737488355328):=hb;clear hb hn;have hnil:∀ W,(binOp .eql 22 (.slice (some a) n cap) (.slice none 0 0)).run Tryz.prog W=.ok (.bool false) W:=fun W=>Lib.run_eql_slice_some_nil W _ _ _ Tryz.underlying22
   go_enter Tryz.func59,Tryz.ntmps59
   go_wp2_with (at_builtin;refine zI _ (by rfl) _ _ 22 (by rfl) 0 3 i0 _ 1 8 Tryz.underlying22 hi0 hz0 hz1 hz2 rfl (by decide) (.slice (some ⟨w.heap.size,0,none⟩) 0 0) 0 [] (by rfl) (World.ownsRow_lit w #[] 0 (Nat.zero_le _) (by unfold maxLen;omega) rfl) (.slice (some a) n cap) n (ints xs) (by rfl) (HS.out.keeps (S:=zA) ((Keeps.refl _ _).alloc _) (fun _ _ h=>h)) HL.out (zKW xs) (by have:=HB.out;unfold maxLen;omega) (by have:=HB.out;omega) (Nat.zero_le _) ?_;intro ad' cap' w6 hout;have HO:=Lib.hid hout;clear hout)
   go_ret
   have hO:=HO.out;refine ⟨ad',cap',by simp,?_,hO.keeps ((Keeps.refl _ _).alloc _) (fun k e hlt=>by exact J209 _),fun kb e=>?_⟩
   ·exact J98 _
   ·exact J58 _
theorem zH5 (w:World) (g n cap:Nat) (hn:n <= cap) (hm:cap <= maxLen) :
 Calls Tryz.prog 69 #[.slice (some ⟨g,0,none⟩) n cap] w fun e w'=>e=.returned (.slice (some ⟨g,0,none⟩) n n) /\ w'=w:=by
 have h1:(0:Int) <= n:=by omega
 have h2:(n:Int) <= cap:=by omega
 have h3:(cap:Int) <= 9223372036854775807:=by unfold maxLen at hm;omega
 go_enter Tryz.func69,Tryz.ntmps69
 go_wp2
 go_ret
 exact ⟨by simp,rfl⟩
theorem zHv (w:World) :
 Calls Tryz.prog 69 #[.slice none 0 0] w fun e w'=>e=.returned (.slice none 0 0) /\ w'=w:=by
 go_enter Tryz.func69,Tryz.ntmps69
 go_wp2
 go_ret
 exact ⟨by simp,rfl⟩
theorem zEg (w:World) (ad:Option Addr) (n cap:Nat) (xs:List Int) (h:w.ownsRow 0 3 1 (.slice ad n cap) n (ints xs)) :
 Calls Tryz.prog 69 #[.slice ad n cap] w fun e w'=>e=.returned (.slice ad n n) /\ w'=w:=by
 rcases h.2 with ⟨e,rfl⟩ | ⟨g,cap',cur,e,_,_,h1,h2,_⟩
 ·cases e;exact zHv w
 ·cases e;exact zH5 w g n cap h1 h2
end Go.Proofs.YtoapgjjepiopbaaGreatDoor
namespace Go.Proofs.YtoapgjjepiopbaaGreatDoor
abbrev w64 (x:Int):Int:=RowKit.wrap64 x
def zD3 (b:Bool):Int:=if b then 1 else 0
def zEu (k a b:Int):Int :=
 if k=5 then w64 (a+b) else if k=6 then w64 (a - b) else if k=7 then w64 (a*b)
 else if k=8 then (if b=0 then 0 else w64 (Int.tdiv a b))
 else if k=9 then (if b=0 then 0 else Int.tmod a b)
 else if k=10 then zD3 (decide (a=b)) else if k=11 then zD3 (decide (a ≠ b))
 else if k=12 then zD3 (decide (a < b)) else if k=13 then zD3 (decide (a <= b))
 else if k=14 then zD3 (decide (b < a)) else if k=15 then zD3 (decide (b <= a))
 else if k=16 then zD3 (decide (a ≠ 0)&&decide (b ≠ 0))
 else zD3 (decide (a ≠ 0) || decide (b ≠ 0))
mutual
def Ex.val (regs:List Int):Ex -> Int
 | .mk k num _ l =>
   if k=1 then num else if k=2 then regs.getD num.toNat 0
   else if k=3 then w64 (-((Ex.zDQ regs l).getD 0 0)) else if k=4 then zD3 (decide ((Ex.zDQ regs l).getD 0 0=0))
   else zEu k ((Ex.zDQ regs l).getD 0 0) ((Ex.zDQ regs l).getD 1 0)
def Ex.zDQ (regs:List Int):List Ex -> List Int
 | []=>[]
 | x :: r=>Ex.val regs x :: Ex.zDQ regs r
end
theorem Ex.zCu {regs:Int} {x:Ex} (h:x.may regs=true):zx x.kind x.num x.nm x.args.length regs=true /\ Ex.zq regs x.args=true:=by
 cases x;simp only [Ex.may,Bool.and_eq_true] at h;exact h
theorem Ex.zCP {regs:Int} {l:List Ex} (h:Ex.zq regs l=true) {a:Ex} (ha:a ∈ l):a.may regs=true:=by
 induction l with
 | nil=>cases ha
 | cons x r ih =>
   simp only [Ex.zq,Bool.and_eq_true] at h;rcases List.mem_cons.1 ha with e | e
   ·subst e;exact h.1
   ·exact ih h.2 e
theorem zBt {k num regs:Int} {nm:ByteArray} {n:Nat} (h:zx k num nm n regs=true):(k=1 /\ n=0) \/ (k=2 /\ n=0 /\ 0 <= num /\ num < regs) \/ ((k=3 \/ k=4) /\ n=1) \/ (5 <= k /\ k <= 17 /\ n=2):=by
 unfold zx at h;split at h
 ·rename_i e
  simp only [Bool.and_eq_true,beq_iff_eq,decide_eq_true_eq] at h;exact .inl ⟨e,h.2⟩
 ·split at h
  ·rename_i e
   simp only [Bool.and_eq_true,beq_iff_eq,decide_eq_true_eq] at h;exact .inr (.inl ⟨e,h.2,h.1.1.1,h.1.1.2⟩)
  ·simp only [Bool.and_eq_true,beq_iff_eq,decide_eq_true_eq] at h
   obtain ⟨⟨⟨⟨h1,h2⟩,h3⟩,h4⟩,h5⟩:=h;split at h5
   ·rename_i e;exact .inr (.inr (.inl ⟨e,h5⟩))
   ·rename_i e;exact .inr (.inr (.inr ⟨by omega,h2,h5⟩))
structure WFr where
 rest:List Ac
 all:List Ac
 left:Nat
structure WTh where
 st:Int
 regs:List Int
 fs:List WFr
structure WMa where
 cells:List Int
 owners:List Int
 ths:List WTh
def zCW (regs:List Int) (fs:List WFr):Option (List Int × List WFr) :=
 match fs.getLast? with
 | none=>none
 | some f =>
   match f.rest with
   | []=>some (regs,if 1 < f.left then fs.dropLast++[⟨f.all,f.all,f.left - 1⟩] else fs.dropLast)
   | a :: r =>
     if a.kind=1 then some (regs.set a.reg.toNat (a.ex.val regs),fs.dropLast++[⟨r,f.all,f.left⟩])
     else if a.kind=10 then some (regs,fs.dropLast++[⟨r,f.all,f.left⟩]++[⟨if a.ex.val regs ≠ 0 then a.thn else a.els,if a.ex.val regs ≠ 0 then a.thn else a.els,1⟩])
     else if a.kind=11 then some (regs,if 0 < a.count then fs.dropLast++[⟨r,f.all,f.left⟩]++[⟨a.thn,a.thn,a.count.toNat⟩] else fs.dropLast++[⟨r,f.all,f.left⟩])
     else none
mutual
def Ac.lw:Ac -> Nat
 | .mk k _ _ _ c t e=>1+(if k=10 then Ac.lwL t+Ac.lwL e+1 else if k=11 then c.toNat*(Ac.lwL t+1) else 0)
def Ac.lwL:List Ac -> Nat
 | []=>0
 | x :: r=>Ac.lw x+Ac.lwL r
end
theorem Ac.zO2 (x:Ac):x.lw=1+(if x.kind=10 then Ac.lwL x.thn+Ac.lwL x.els+1 else if x.kind=11 then x.count.toNat*(Ac.lwL x.thn+1) else 0):=by
 cases x;rw [Ac.lw];rfl
def WFr.mea (f:WFr):Nat:=Ac.lwL f.rest+(f.left - 1)*(Ac.lwL f.all+1)+1
def zBf:List WFr -> Nat
 | []=>0
 | f :: r=>f.mea+zBf r
theorem zAW:(a b:List WFr) -> zBf (a++b)=zBf a+zBf b
 | [],b=>by simp [zBf]
 | x :: r,b=>by have:=zAW r b;simp only [List.cons_append,zBf,this];omega
theorem zDm {α:Type} {l:List α} {x:α} (h:l.getLast?=some x):l=l.dropLast++[x]:=by
 have hn:l ≠ []:=fun e=>by subst e;simp at h
 rw [List.getLast?_eq_some_getLast hn] at h;have h2:=List.dropLast_concat_getLast hn;simp only [Option.some.injEq] at h;rw [h] at h2;exact h2.symm
theorem zBy {regs regs':List Int} {fs fs':List WFr} (h:zCW regs fs=some (regs',fs')):zBf fs' < zBf fs:=by
 unfold zCW at h;cases hl:fs.getLast? with
 | none=>rw [hl] at h;cases h
 | some f =>
   have hs:=zDm hl
   have hm:zBf fs=zBf fs.dropLast+f.mea:=by
    have:=congrArg zBf hs
    rw [zAW] at this;simpa [zBf] using this
   rw [hl] at h;simp only at h;cases hr:f.rest with
   | nil =>
     rw [hr] at h;simp only [Option.some.injEq,Prod.mk.injEq] at h;obtain ⟨_,rfl⟩:=h;split
     ·rw [zAW,hm]
      simp only [zBf,WFr.mea,hr,Ac.lwL];obtain ⟨q,hq⟩:∃ q,f.left - 1=q+1:=⟨f.left - 2,by omega⟩
      rw [hq,Nat.add_mul];simp only [Nat.add_sub_cancel,Nat.one_mul,Nat.zero_add,Nat.add_zero,show f.left - 1 - 1=q by omega];generalize q*(Ac.lwL f.all+1)=z;omega
     ·rw [hm];simp [WFr.mea]
   | cons a r =>
     rw [hr] at h;have hf:f.mea=a.lw+Ac.lwL r+(f.left - 1)*(Ac.lwL f.all+1)+1:=by simp only [WFr.mea,hr,Ac.lwL]
     have ha:=Ac.zO2 a;simp only at h;split at h
     ·simp only [Option.some.injEq,Prod.mk.injEq] at h
      obtain ⟨_,rfl⟩:=h;rw [zAW,hm,hf];simp only [zBf,WFr.mea];omega
     ·split at h
      ·rename_i h10
       rw [if_pos h10] at ha;simp only [Option.some.injEq,Prod.mk.injEq] at h;obtain ⟨_,rfl⟩:=h;rw [zAW,zAW,hm,hf];simp only [zBf,WFr.mea];split <;> omega
      ·rename_i h10
       split at h
       ·rename_i h11
        rw [if_neg h10,if_pos h11] at ha;simp only [Option.some.injEq,Prod.mk.injEq] at h;obtain ⟨_,rfl⟩:=h;split
        ·rename_i hc
         rw [zAW,zAW,hm,hf];simp only [zBf,WFr.mea];obtain ⟨q,hq⟩:∃ q,a.count.toNat=q+1:=⟨a.count.toNat - 1,by omega⟩
         rw [hq] at ha ⊢;rw [Nat.add_mul] at ha;simp only [Nat.add_sub_cancel,Nat.one_mul] at ha ⊢;omega
        ·rw [zAW,hm,hf]
         simp only [zBf,WFr.mea];omega
       ·cases h
def zGj:Nat -> List Int -> List WFr -> List Int × List WFr
 | 0,r,fs=>(r,fs)
 | n+1,r,fs=>match zCW r fs with
   | none=>(r,fs)
   | some p=>zGj n p.1 p.2
theorem zJx:∀ (n m:Nat) (r:List Int) (fs:List WFr),zBf fs <= n -> zBf fs <= m -> zGj n r fs=zGj m r fs:=by
 intro n
 induction n with
 | zero =>
   intro m r fs h1 _
   cases m with
   | zero=>rfl
   | succ m =>
     simp only [zGj];cases h:zCW r fs with
     | none=>rfl
     | some p=>have:=zBy (regs':=p.1) (fs':=p.2) h;omega
 | succ n ih =>
   intro m r fs h1 h2
   cases m with
   | zero =>
     simp only [zGj];cases h:zCW r fs with
     | none=>rfl
     | some p=>have:=zBy (regs':=p.1) (fs':=p.2) h;omega
   | succ m =>
     simp only [zGj];cases h:zCW r fs with
     | none=>rfl
     | some p =>
       have:=zBy (regs':=p.1) (fs':=p.2) h
       exact ih m p.1 p.2 (by omega) (by omega)
def loc (r:List Int) (fs:List WFr):List Int × List WFr:=zGj (zBf fs) r fs
theorem zHG {r:List Int} {fs:List WFr} (h:zCW r fs=none):loc r fs=(r,fs):=by
 unfold loc;cases hm:zBf fs with
 | zero=>rfl
 | succ n=>simp only [zGj,h]
theorem zKp {r r':List Int} {fs fs':List WFr} (h:zCW r fs=some (r',fs')):loc r fs=loc r' fs':=by
 have hl:=zBy h;unfold loc;obtain ⟨n,hn⟩:∃ n,zBf fs=n+1:=⟨zBf fs - 1,by omega⟩
 rw [hn];simp only [zGj,h];exact zJx n _ _ _ (by omega) (Nat.le_refl _)
theorem zMC {P:List Int -> List WFr -> Prop} (hs:∀ r fs r' fs',P r fs -> zCW r fs=some (r',fs') -> P r' fs') {r:List Int} {fs:List WFr} (h:P r fs):P (loc r fs).1 (loc r fs).2 /\ zCW (loc r fs).1 (loc r fs).2=none:=by
 suffices H:∀ n r fs,zBf fs <= n -> P r fs -> P (loc r fs).1 (loc r fs).2 /\ zCW (loc r fs).1 (loc r fs).2=none from H (zBf fs) r fs (Nat.le_refl _) h
 intro n
 induction n with
 | zero =>
   intro r fs hn hp
   cases h:zCW r fs with
   | none=>rw [zHG h];exact ⟨hp,h⟩
   | some p=>have:=zBy (regs':=p.1) (fs':=p.2) h;omega
 | succ n ih =>
   intro r fs hn hp
   cases h:zCW r fs with
   | none=>rw [zHG h];exact ⟨hp,h⟩
   | some p =>
     have:=zBy (regs':=p.1) (fs':=p.2) h
     rw [zKp (r':=p.1) (fs':=p.2) h];exact ih p.1 p.2 (by omega) (hs r fs p.1 p.2 hp h)
def WTh.zero:WTh:=⟨0,[],[]⟩
def WMa.get (m:WMa) (i:Nat):WTh:=m.ths.getD i WTh.zero
def WMa.zC9 (m:WMa) (i:Nat) (t:WTh):WMa:={ m with ths:=m.ths.set i t }
def WTh.local (t:WTh):WTh:=⟨t.st,(loc t.regs t.fs).1,(loc t.regs t.fs).2⟩
def WTh.next (t:WTh):Option Ac:=t.fs.getLast?.bind fun f=>f.rest.head?
def WTh.on (t:WTh):WTh:=match t.fs.getLast? with
 | none=>t
 | some f=>{ t with fs:=t.fs.dropLast++[⟨f.rest.tail,f.all,f.left⟩] }
def Un.body (u:Un) (i:Nat):Bd:=u.threads.getD i ⟨0,[]⟩
def zLy (b:Bd):WTh:=WTh.local ⟨2,List.replicate b.regs.toNat 0,[⟨b.acts,b.acts,1⟩]⟩
def zLL (u:Un) (m:WMa) (i:Nat):WMa:=m.zC9 i (zLy (u.body i))
def zFu (u:Un):WMa:=zLL u ⟨u.cells,List.replicate u.mutexes.toNat (-1),u.threads.map fun _=>⟨1,[],[]⟩⟩ 0
def zG5 (m:WMa) (i:Nat):Int × Int :=
 if (m.get i).st ≠ 2 then (0,0) else match (m.get i).next with
  | none=>(9,i)
  | some a=>(a.kind - 1,a.obj)
def zK2 (m:WMa) (i:Nat):Bool :=
 let a:=zG5 m i
 if a.1=0 then false else if a.1=4 then decide (m.owners.getD a.2.toNat 0=-1)
 else if a.1=7 then decide ((m.get a.2.toNat).st ≠ 2)&&decide ((m.get a.2.toNat).st ≠ 4) else true
def zKP (m:WMa):List Int:=((List.range m.ths.length).filter (zK2 m)).map fun (i:Nat)=>(i:Int)
structure Evt where
 thread:Int
 kind:Int
 obj:Int
 value:Int
 bad:Int
def Evt.zero:Evt:=⟨0,0,0,0,0⟩
def zKU (m:WMa) (i:Int):Int :=
 if i < 0 \/ (m.ths.length:Int) <= i then 2 else
 let s:=(m.get i.toNat).st
 if s=1 then 80 else if s=3 then 81 else if s=4 then 82 else if zK2 m i.toNat then 0 else 83
def doM (u:Un) (m:WMa) (i:Nat) (a:Ac):WMa × Int × Int :=
 let t:=m.get i
 let c:=m.cells.getD a.obj.toNat 0
 if a.kind=2 then (m.zC9 i { t with regs:=t.regs.set a.reg.toNat c },c,0)
 else if a.kind=3 then ({ m with cells:=m.cells.set a.obj.toNat (a.ex.val t.regs) },a.ex.val t.regs,0)
 else if a.kind=4 then ({ m with cells:=m.cells.set a.obj.toNat (w64 (c+a.ex.val t.regs)) }.zC9 i { t with regs:=t.regs.set a.reg.toNat c },c,0)
 else if a.kind=5 then ({ m with owners:=m.owners.set a.obj.toNat i },0,0)
 else if a.kind=6 then (if m.owners.getD a.obj.toNat 0=i then ({ m with owners:=m.owners.set a.obj.toNat (-1) },0,0) else (m,0,2))
 else if a.kind=7 then (if (m.get a.obj.toNat).st=1 then (zLL u m a.obj.toNat,0,0) else (m,0,4))
 else if a.kind=8 then (if (m.get a.obj.toNat).st=1 then (m,0,3) else (m,0,0))
 else (m,a.ex.val t.regs,if a.ex.val t.regs=0 then 1 else 0)
def zNK (u:Un) (m:WMa) (i:Nat):WMa × Evt :=
 match (m.get i).next with
 | none=>(m.zC9 i { m.get i with st:=3 },⟨i,(zG5 m i).1,(zG5 m i).2,0,0⟩)
 | some a =>
   let r:=doM u m i a
   if r.2.2 ≠ 0 then (r.1.zC9 i { r.1.get i with st:=4 },⟨i,(zG5 m i).1,(zG5 m i).2,r.2.1,r.2.2⟩)
   else (r.1.zC9 i (r.1.get i).on.local,⟨i,(zG5 m i).1,(zG5 m i).2,r.2.1,0⟩)
def stepM (u:Un) (m:WMa) (i:Int):WMa × Evt × Int :=
 if zKU m i=0 then ((zNK u m i.toNat).1,(zNK u m i.toNat).2,0) else (m,Evt.zero,zKU m i)
end Go.Proofs.YtoapgjjepiopbaaGreatDoor
