/- Layer D: texts joined. -/
import Derived.Test.YtoapgjjepiopbaaGreatDoorD03
set_option linter.all false
set_option maxHeartbeats 400000
namespace Go.Proofs.YtoapgjjepiopbaaGreatDoor
open Go.RowKit
abbrev vY:=@List.concat_eq_append
theorem J38x41(P:Prop) (h:P:=by
 go_ret
 exact⟨rfl,rfl⟩):P:=h
theorem J157(P:Prop) (h:P:=by
 rw[e1];clear e1;go_enter Tryz.func181,Tryz.ntmps181
 go_wp2
 exact J38x41 _):P:=h
theorem J183x41(P:Prop)(h:P:=by rw[beq_eq_false_iff_ne];omega):P:=h
theorem J228(P:Prop)(h:P:=by rw[<-hlen];exact h.cell0):P:=h
def zI0(t:Int):Int:=if t<0\/8<=t then 0 else 2 ^ t.toNat
theorem zMO(t:Int)(h:t.toNat<8):IntKind.u64.wrap (2 ^ t.toNat)=2 ^ t.toNat:=by
 generalize t.toNat=n at h;match n,h with
 | 0,_|1,_|2,_|3,_|4,_|5,_|6,_|7,_=>decide
theorem zPU(t:Int)(w:World):
 Calls Tryz.prog 181 #[t] w λe w'=>e=.returned (.int .u64 (zI0 t))/\w=w':=by
 by_cases h1:t<0
 ·have e1:zI0 t=0:=by simp[zI0,h1]
  exact J157 _
 ·by_cases h2:8<=t
  ·have e1:zI0 t=0:=by simp[zI0,h2]
   exact J157 _
  ·have e1:zI0 t=IntKind.u64.wrap (2 ^ t.toNat):=by rw[zMO t (by omega)];simp[zI0,h1,h2]
   exact J157 _
def zDa(s:Int)(t:Int):Int:=bits .or .u64 s (zI0 t)
theorem zLE(s t:Int)(w:World):
 Calls Tryz.prog 173 #[.int .u64 s,t] w λe w'=>e=.returned (.int .u64 (zDa s t))/\w=w':=by
 go_enter Tryz.func173,Tryz.ntmps173
 go_wp2_with (go_at_call 181;refine(zPU _ _).mono ?_;rintro e w' ⟨rfl,rfl⟩)
 go_ret
 exact⟨rfl,rfl⟩
def zIL(s:Int):Int:=((List.range 8).filter λi=>s.toNat.testBit i).length
theorem zKC(s:Int)(w:World)(hs:0<=s/\s<=255):
 Calls Tryz.prog 223 #[.int .u64 s] w λe w'=>e=.returned (.int .i64 (zIL s))/\w=w':=by
 go_enter Tryz.func223,Tryz.ntmps223
 go_wp2
 go_ret
 refine⟨congrArg (λn=>Ending.returned (.int .i64 n)) ?_,rfl⟩
 obtain⟨k,rfl⟩:∃k:Fin 256,s=(k.val:Int):=⟨⟨s.toNat,by omega⟩,by simp;omega⟩
 clear hs;revert k
 decide +kernel
theorem zM9(s:Int)(w:World)(hs:0<=s/\s<=255):
 Calls Tryz.prog 187 #[.int .u64 s] w λe w'=>e=.returned (.int .i64 (zIL s))/\w=w':=by
 go_enter Tryz.func187,Tryz.ntmps187
 go_wp2_with (go_at_call 223;refine(zKC _ _ hs).mono ?_;rintro e w' ⟨rfl,rfl⟩)
 go_ret
 exact⟨rfl,rfl⟩
theorem zJ1(s:Int)(hs:0<=s/\s<18446744073709551616):bits .and .u64 s 255=s % 256:=by
 rw[u64_and s 255 hs.1 hs.2 (by decide) (by decide)];rw[show((255:Int).toNat)=255 from rfl,nat_mask8];omega
theorem zHs(s:Int)(w:World)(hs:0<=s/\s<18446744073709551616):
 Calls Tryz.prog 132 #[.int .u64 s] w λe w'=>e=.returned (.int .i64 (zIL (s % 256)))/\w=w':=by
 have h:=zJ1 s hs;have hb:0<=s % 256/\s % 256<=255:=by omega
 go_enter Tryz.func132,Tryz.ntmps132
 go_wp2_with (go_at_call 187;refine(zM9 _ _ hb).mono ?_;rintro e w' ⟨rfl,rfl⟩)
 go_ret
 exact⟨rfl,rfl⟩
def zNe:List Int:=[0,1,56,2,57,49,28,3,61,58,42,50,38,29,17,4,62,47,59,36,45,43,51,22,53,39,33,30,24,18,12,5,63,55,48,27,60,41,37,16,46,35,44,21,52,32,23,11,54,26,40,15,34,20,31,10,25,14,19,9,13,8,7,6]
def zAq(w:World):Prop:=∀j,j<64->w.cell? ⟨3,j,none⟩=some (.int .u8 (zNe.getD j 0))
theorem zO0(i q n:Nat)(hq:q<2 ^ n):(2 ^ (i+1)*q+2 ^ i) &&& (2 ^ (i+1)*(2 ^ n-(q+1))+2 ^ i)=2 ^ i:=by
 have hb:2 ^ i<2 ^ (i+1):=by rw[xY];have:=Nat.two_pow_pos i;omega
 apply Nat.eq_of_testBit_eq
 intro j
 rw[Nat.testBit_and,Nat.testBit_two_pow_mul_add q hb,Nat.testBit_two_pow_mul_add _ hb];split
 ·simp
 ·rw[Nat.testBit_two_pow_sub_succ hq,Nat.testBit_two_pow]
  have:i≠j:=by omega
  cases q.testBit (j-(i+1)) <;> simp[this]
theorem zPR(i:Nat)(hi:i<8)(s:Int)(hs:0<=s/\s<18446744073709551616)(h:s.toNat % 2 ^ (i+1)=2 ^ i):
 bits .and .u64 s (IntKind.u64.wrap (-s))=2 ^ i:=by
 obtain⟨x,rfl⟩:=Int.eq_ofNat_of_zero_le hs.1;have hx:x<18446744073709551616:=by omega
 simp only[Int.toNat_natCast] at h
 have h0:0<x:=by
  rcases uM x with h0|h0
  ·subst h0;have:=Nat.two_pow_pos i;simp at h;omega
  ·exact h0
 have e:IntKind.u64.wrap (-(x:Int))=((18446744073709551616-x:Nat):Int):=by
  rw[IntKind.wrap_u64];omega
 rw[e,u64_and_nat _ _ hx (by omega)];have hq:=vZ x (2 ^ (i+1));rw[h] at hq;generalize x / 2 ^ (i+1)=q at hq;have hp:2 ^ (i+1)*2 ^ (63-i)=18446744073709551616:=by rw[<-Nat.pow_add,show i+1+(63-i)=64 by omega]
 have hlt:q<2 ^ (63-i):=by
  rcases xR q (2 ^ (63-i)) with hl|hl
  ·exact hl
  ·have:=Nat.mul_le_mul_left (2 ^ (i+1)) hl;omega
 have key:=zO0 i q (63-i) hlt
 have e2:2 ^ (i+1)*(2 ^ (63-i)-(q+1))+2 ^ i=18446744073709551616-x:=by
  rw[Nat.mul_sub,hp,vR,Nat.mul_one];have h2:2 ^ (i+1)=2*2 ^ i:=by rw[xY];omega
  have h3:2 ^ (i+1)*q+2 ^ (i+1)<=18446744073709551616:=by
   have:=Nat.mul_le_mul_left (2 ^ (i+1)) (show q+1<=2 ^ (63-i) by omega)
   rw[vR,Nat.mul_one] at this;omega
  omega
 rw[hq,e2] at key;rw[key];norm_cast
def zAS(s:Int):Int:=match (List.range 8).find? (λi=>s.toNat.testBit i) with|some i=>i|none=>-1
theorem zEV(s:Int)(hs:0<=s):zAS s=zAS (s % 256):=by
 unfold zAS
 have h:∀i,i∈List.range 8->(λi=>s.toNat.testBit i) i=(λi=>(s % 256).toNat.testBit i) i:=by
  intro i hi
  have hi':i<8:=by simpa using hi
  have:(s % 256).toNat=s.toNat % 2 ^ 8:=by omega
  show s.toNat.testBit i=(s % 256).toNat.testBit i
  rw[this,Nat.testBit_mod_two_pow];simp[hi']
 have e:(List.range 8).find? (λi=>s.toNat.testBit i)=(List.range 8).find? (λi=>(s % 256).toNat.testBit i):=by
  generalize List.range 8=l at h;induction l with
  | nil=>rfl
  | cons a l ih =>
    have ha:s.toNat.testBit a=(s % 256).toNat.testBit a:=h a (by simp);simp only[List.find?_cons];rw[ha,ih (λi hi=>h i (by simp[hi]))]
 rw[e]
theorem zKW:∀k:Fin 256,(k.val=0->zAS k.val=-1)/\(k.val≠0->∃i:Fin 8,zAS k.val=i.val/\k.val % 2 ^ (i.val+1)=2 ^ i.val):=by
 decide +kernel
theorem zJB(s:Int)(hs:0<=s)(h:s % 256=0):zAS s=-1:=by
 rw[zEV s hs,h];decide
theorem zIw(s:Int)(hs:0<=s)(h:s % 256≠0):∃i:Nat,i<8/\zAS s=i/\s.toNat % 2 ^ (i+1)=2 ^ i:=by
 obtain⟨_,h2⟩:=zKW ⟨(s % 256).toNat,by omega⟩;obtain⟨i,h3,h4⟩:=h2 (by show(s % 256).toNat≠0;omega);refine⟨i.val,i.isLt,?_,?_⟩
 ·rw[zEV s hs]
  have:((s % 256).toNat:Int)=s % 256:=by omega
  rw[<-this];exact h3
 ·have h5:(s % 256).toNat=s.toNat % 256:=by omega
  rw[<-h4];show _=(s % 256).toNat % _
  rw[h5]
  have hd:2 ^ (i.val+1) ∣ 256:=by
   rw[show 256=2 ^ 8 from rfl];exact Nat.pow_dvd_pow 2 (by omega)
  rw[Nat.mod_mod_of_dvd _ hd]
theorem zRV(i:Nat)(hi:i<8):∃j:Nat,j<64/\IntKind.u64.wrap (2 ^ i*285870213051353865) / 288230376151711744=(j:Int)/\zNe.getD j 0=(i:Int):=by
 match i,hi with
 | 0,_=>exact⟨0,by decide,by decide,by decide⟩
 | 1,_=>exact⟨1,by decide,by decide,by decide⟩
 | 2,_=>exact⟨3,by decide,by decide,by decide⟩
 | 3,_=>exact⟨7,by decide,by decide,by decide⟩
 | 4,_=>exact⟨15,by decide,by decide,by decide⟩
 | 5,_=>exact⟨31,by decide,by decide,by decide⟩
 | 6,_=>exact⟨63,by decide,by decide,by decide⟩
 | 7,_=>exact⟨62,by decide,by decide,by decide⟩
theorem zOK(s:Int)(i:Nat)(hi:i<8)(w:World)(hs:0<=s/\s<18446744073709551616)(h:s.toNat % 2 ^ (i+1)=2 ^ i)(hT:zAq w):
 Calls Tryz.prog 233 #[.int .u64 s] w λe w'=>e=.returned i/\w=w':=by
 have hl:=zPR i hi s hs h
 have h0:(s==0)=false:=by
  rw[beq_eq_false_iff_ne];intro e;subst e;have:=Nat.two_pow_pos i;simp at h;omega
 obtain⟨j,hj,e1,e2⟩:=zRV i hi;have hc:=hT j hj;rw[e2] at hc;clear e2 hT h;go_enter Tryz.func233,Tryz.ntmps233
 go_wp2
 go_ret
 exact⟨rfl,rfl⟩
theorem zQy(s:Int)(i:Nat)(hi:i<8)(w:World)(hs:0<=s/\s<18446744073709551616)(h:s.toNat % 2 ^ (i+1)=2 ^ i)(hT:zAq w):
 Calls Tryz.prog 197 #[.int .u64 s] w λe w'=>e=.returned i/\w=w':=by
 have H:=yA h;clear h;go_enter Tryz.func197,Tryz.ntmps197
 go_wp2_with (go_at_call 233;refine(zOK _ i hi _ hs H.out hT).mono ?_;rintro e w' ⟨rfl,rfl⟩)
 go_ret
 exact⟨rfl,rfl⟩
theorem zHc(s:Int)(w:World)(hs:0<=s/\s<18446744073709551616)(hT:zAq w):
 Calls Tryz.prog 164 #[.int .u64 s] w λe w'=>e=.returned (.int .i64 (zAS s))/\w=w':=by
 have h:=zJ1 s hs;by_cases h0:s % 256=0
 ·rw[zJB s hs.1 h0]
  rw[h0] at h;clear h0 hT;go_enter Tryz.func164,Tryz.ntmps164
  go_wp2
  exact J38x41 _
 ·obtain⟨i,hi,e,hm⟩:=zIw s hs.1 h0
  rw[e];have h1:(s % 256==0)=false:=by rw[beq_eq_false_iff_ne];exact h0
  have H:=yA hm;clear h0 hm e;go_enter Tryz.func164,Tryz.ntmps164
  go_wp2_with (go_at_call 197;refine(zQy _ i hi _ hs H.out hT).mono ?_;rintro e w' ⟨rfl,rfl⟩)
  exact J38x41 _
theorem zG6:∀k:Fin 256,(zAS k.val=-1->(zIL k.val==0)=true)/\(zAS k.val ≠ -1->(zIL k.val==0)=false):=by decide +kernel
theorem zHE(s:Int)(hs:0<=s):(zAS s=-1->(zIL (s % 256)==0)=true)/\(zAS s ≠ -1->(zIL (s % 256)==0)=false):=by
 rw[zEV s hs];have h:=zG6 ⟨(s % 256).toNat,by omega⟩;have e:(((s % 256).toNat:Nat):Int)=s % 256:=by omega
 simp only[e] at h;exact h
theorem zFI(a b:Int)(ha:0<=a/\a<18446744073709551616)(hb:0<=b/\b<18446744073709551616):0<=bits .andNot .u64 a b/\bits .andNot .u64 a b<=a:=by
 rw[u64_andNot a b ha.1 ha.2 hb.1 hb.2];have:=@Nat.and_le_left a.toNat (18446744073709551615-b.toNat)
 omega
structure Nd where
 sleep:Int
 back:Int
 done:Int
 thread:Int
def Nd.cells(x:Nd):List Value:=[.int .u64 x.sleep,.int .u64 x.back,.int .u64 x.done,.int .i64 x.thread]
def Nd.Ok(x:Nd):Prop:=(0<=x.sleep/\x.sleep<256)/\(0<=x.back/\x.back<256)/\(0<=x.done/\x.done<256) /\ -1<=x.thread/\x.thread<8
def zHJ(L:List Nd):Prop:=L.length<=61/\∀x∈L,x.Ok
def zCd(L:List Nd):List Value:=L.flatMap Nd.cells
theorem zH2(x:Nd):x.cells.length=4:=rfl
theorem zJT(L:List Nd):(zCd L).length=L.length*4:=zAI _ 4 zH2 L
structure zQ(w:World)(b:Nat)(v:Value)(L:List Nd):Prop where
 blk:w.heap[b]?=some (.cells #[v] 164 (0,0))
 own:w.ownsRow 0 211 4 v L.length (zCd L)
 apart:v.ownBlock≠some b
def zNy(b:Nat)(v:Value)(k:Nat):Prop:=k=b\/v.ownBlock=some k
theorem zQ.cell0{w:World}{b:Nat}{v:Value}{L:List Nd}(h:zQ w b v L):w.cell? ⟨b,0,none⟩=some v:=cell_of_one h.blk
theorem zQ.zNi{w:World}{b:Nat}{v:Value}{L:List Nd}(h:zQ w b v L):w.frozen? ⟨b,0,none⟩=false:=free_of_one h.blk
theorem zQ.keeps{S:Nat->Prop}{w w':World}{b:Nat}{v:Value}{L:List Nd}(h:zQ w b v L)(hk:Keeps S w w')(hn:∀k,zNy b v k->¬S k):zQ w' b v L:=
 ⟨hk.heap (hn b (.inl rfl)) h.blk,zD h.own hk (λk e=>hn k (.inr e)),h.apart⟩
theorem zQ.shape{w:World}{b:Nat}{v:Value}{L:List Nd}(h:zQ w b v L):(v=.slice none 0 0/\L=[])\/∃g cap,v=.slice (some ⟨g,0,none⟩) L.length cap/\g≠b/\L.length<=cap/\cap<=maxLen:=by
 rcases h.own.2 with⟨h1,h2⟩|⟨g,cap,cur,hv,_,_,hn,hm,_⟩
 ·exact .inl ⟨h1,xW h2⟩
 ·refine .inr ⟨g,cap,hv,λe=>h.apart ?_,hn,hm⟩
  rw[hv,e];rfl
theorem zQ.get{w:World}{b g cap:Nat}{L:List Nd}(h:zQ w b (.slice (some ⟨g,0,none⟩) L.length cap) L){i:Nat}{x:Nd}(hx:L[i]?=some x):
 w.cell? ⟨g,i*4,none⟩=some (.int .u64 x.sleep)/\w.cell? ⟨g,i*4+1,none⟩=some (.int .u64 x.back)/\w.cell? ⟨g,i*4+2,none⟩=some (.int .u64 x.done)/\w.cell? ⟨g,i*4+3,none⟩=some (.int .i64 x.thread):=by
 have hi:i<L.length:=(yP.1 hx).1
 have hc:∀j,j<4->w.cell? ⟨g,i*4+j,none⟩=x.cells[j]?:=λj hj=>by
  rw[h.own.cellAt (i*4+j) (by omega)];show(L.flatMap Nd.cells)[i*4+j]?=_
  rw[zCh _ 4 zH2 L i j hj,hx];rfl
 exact⟨hc 0 (by decide),hc 1 (by decide),hc 2 (by decide),hc 3 (by decide)⟩
theorem zQ.set{w:World}{b g cap:Nat}{L:List Nd}(h:zQ w b (.slice (some ⟨g,0,none⟩) L.length cap) L){i j:Nat}(hj:j<4){x y:Nd}(hx:L[i]?=some x){u:Value}(hy:y.cells=x.cells.set j u):
 zQ (w.setCell ⟨g,i*4+j,none⟩ u) b (.slice (some ⟨g,0,none⟩) (L.set i y).length cap) (L.set i y):=by
 have hg:g≠b:=λe=>h.apart (by rw[e];rfl)
 refine⟨?_,?_,h.apart⟩
 ·rw[Below.heap_setCell _ _ _ _ (show b≠g from λe=>hg e.symm),xQ];exact h.blk
 ·have:=(h.own.stored (i*4+j) u).1
  rw[xQ];have e:(zCd L).set (i*4+j) u=zCd (L.set i y):=zDB _ 4 zH2 L i j hj u x y hx hy;rw[e] at this;exact this
theorem zQ.free{w:World}{b g n cap:Nat}{L:List Nd}(h:zQ w b (.slice (some ⟨g,0,none⟩) n cap) L)(j:Nat):w.frozen? ⟨g,j,none⟩=false:=by
 rcases h.own.2 with⟨h',_⟩|⟨g',cap',cur,h',_,hg,_⟩
 ·simp at h'
 ·simp only[xH,yN,Addr.mk.injEq,and_true,yh] at h'
  obtain⟨rfl,_⟩:=h';exact frozen_of_row w g j cur _ hg
theorem zQ.alloc{w:World}{b:Nat}{v:Value}{L:List Nd}(h:zQ w b v L)(o:Obj):zQ (w.alloc o) b v L:=
 h.keeps (S:=zA) ((yB _ _).alloc o) (λ_ _ h=>h)
theorem zQ.drewN{w:World}{b:Nat}{v:Value}{L:List Nd}(h:zQ w b v L)(n:Nat):zQ (w.drewN n) b v L:=⟨h.blk,h.own,h.apart⟩
def zAi(w:World)(b:Nat)(v:Value)(r:Value)(L':List Nd)(e:Ending)(w':World):Prop:=
 ∃v',e=.returned r/\zQ w' b v' L'/\Keeps (zNy b v) w w'/\∀k,v'.ownBlock=some k->v.ownBlock=some k\/w.heap.size<=k
theorem zF5(n:Nat)(hn:n<=100):IntKind.i64.wrap (n:Int)=n:=IntWalk.i64_in _ (by omega)
section
variable (a:Option Addr) (b g n cap:Nat) (sl bk dn t:Int) (w:World)
theorem zCO(hv:w.cell? ⟨b,0,none⟩=some (.slice a 0 cap)):
 Calls Tryz.prog 163 #[.pointer (some ⟨b,0,none⟩)] w λe w'=>e=.returned (.pointer none)/\∃k,w'=w.drewN k:=by
 go_enter Tryz.func163,Tryz.ntmps163
 go_wp2
 go_quiet (fail)
 go_wp2
 go_ret
 exact⟨rfl,_,rfl⟩
theorem zE7(hn:n<=60)(ht:t<0)
 (hv:w.cell? ⟨b,0,none⟩=some (.slice (some ⟨g,0,none⟩) (n+1) cap)) (hc:w.cell? ⟨g,n*4+3,none⟩=some (.int .i64 t)):
 Calls Tryz.prog 163 #[.pointer (some ⟨b,0,none⟩)] w λe w'=>e=.returned (.pointer (some ⟨g,n*4,none⟩))/\∃k,w'=w.drewN k:=by
 have e1:=zF5 n (by omega);have e2:(0:Int)<=n:=by omega
 have e3:(n:Int)<(n:Int)+1:=by omega
 have e4:((n:Int)+1==0)=false:=J183x41 _;have e5:decide (0<=t)=false:=by simp;omega
 go_enter Tryz.func163,Tryz.ntmps163
 go_wp2
 go_quiet (fail)
 go_wp2
 go_quiet (fail)
 go_wp2
 go_ret
 exact⟨rfl,_,World.drewN_drewN ..⟩
theorem zEI(hn:n<=60)(ht:0<=t)
 (hv:w.cell? ⟨b,0,none⟩=some (.slice (some ⟨g,0,none⟩) (n+1) cap)) (hc:w.cell? ⟨g,n*4+3,none⟩=some (.int .i64 t)):
 Calls Tryz.prog 163 #[.pointer (some ⟨b,0,none⟩)] w λe w'=>e=.returned (.pointer none)/\∃k,w'=w.drewN k:=by
 have e1:=zF5 n (by omega);have e2:(0:Int)<=n:=by omega
 have e3:(n:Int)<(n:Int)+1:=by omega
 have e4:((n:Int)+1==0)=false:=J183x41 _;have e5:decide (0<=t)=true:=by simp;omega
 go_enter Tryz.func163,Tryz.ntmps163
 go_wp2
 go_quiet (fail)
 go_wp2
 go_ret
 exact⟨rfl,_,rfl⟩
theorem zEJ(h:Calls Tryz.prog 163 #[.pointer (some ⟨b,0,none⟩)] w λe w'=>e=.returned (.pointer none)/\∃k,w'=w.drewN k):
 Calls Tryz.prog 110 #[.pointer (some ⟨b,0,none⟩)] w λe w'=>e=.returned (.tuple #[(0:Int),false])/\∃k,w'=w.drewN k:=by
 have H:=yA h;clear h;go_enter Tryz.func110,Tryz.ntmps110
 go_wp2_with (go_at_call 163;refine H.out.mono ?_;rintro e w' ⟨rfl,k,rfl⟩)
 go_ret2
 exact⟨rfl,_,rfl⟩
theorem zGz(hn:n<=60)(hs:0<=sl/\sl<256)(hb:0<=bk/\bk<256)(hT:zAq w)(hl:zAS (bits .andNot .u64 bk sl) ≠ -1)
 (h:Calls Tryz.prog 163 #[.pointer (some ⟨b,0,none⟩)] w λe w'=>e=.returned (.pointer (some ⟨g,n*4,none⟩))/\∃k,w'=w.drewN k)
 (h0:w.cell? ⟨g,n*4,none⟩=some (.int .u64 sl)) (h1:w.cell? ⟨g,n*4+1,none⟩=some (.int .u64 bk)) (h3:w.cell? ⟨g,n*4+3,none⟩=some (.int .i64 t))
 (hf:w.frozen? ⟨g,n*4+3,none⟩=false):
 Calls Tryz.prog 110 #[.pointer (some ⟨b,0,none⟩)] w λe w'=>e=.returned (.tuple #[.int .i64 (zAS (bits .andNot .u64 bk sl)),true])/\∃k,w'=(w.drewN k).setCell ⟨g,n*4+3,none⟩ (.int .i64 (zAS (bits .andNot .u64 bk sl))):=by
 have H:=yA h;have HT:=yA hT;have hbd:=zFI bk sl (by omega) (by omega);have hlen:(zIL (bits .andNot .u64 bk sl % 256)==0)=false:=(zHE _ hbd.1).2 hl;clear h hl hT;go_enter Tryz.func110,Tryz.ntmps110
 go_wp2_with (first|(go_at_call 163;refine H.out.mono ?_;rintro e w' ⟨rfl,k,rfl⟩)|(go_at_call 132;refine(zHs _ _ (by omega)).mono ?_;rintro e w' ⟨rfl,rfl⟩))
 go_quiet (fail)
 go_wp2_with (first|(go_at_call 132;refine(zHs _ _ (by omega)).mono ?_;rintro e w' ⟨rfl,rfl⟩)|(go_at_call 164;refine(zHc _ _ (by omega) (by exact HT.out)).mono ?_;rintro e w' ⟨rfl,rfl⟩))
 go_ret2
 exact⟨rfl,_,rfl⟩
theorem zIB(hn:n<=60)(hs:0<=sl/\sl<256)(hb:0<=bk/\bk<256)(hl:zAS (bits .andNot .u64 bk sl)=-1)
 (h:Calls Tryz.prog 163 #[.pointer (some ⟨b,0,none⟩)] w λe w'=>e=.returned (.pointer (some ⟨g,n*4,none⟩))/\∃k,w'=w.drewN k)
 (h0:w.cell? ⟨g,n*4,none⟩=some (.int .u64 sl)) (h1:w.cell? ⟨g,n*4+1,none⟩=some (.int .u64 bk)):
 Calls Tryz.prog 110 #[.pointer (some ⟨b,0,none⟩)] w λe w'=>e=.returned (.tuple #[(0:Int),false])/\∃k,w'=w.drewN k:=by
 have H:=yA h;have hbd:=zFI bk sl (by omega) (by omega);have hlen:(zIL (bits .andNot .u64 bk sl % 256)==0)=true:=(zHE _ hbd.1).1 hl;clear h hl;go_enter Tryz.func110,Tryz.ntmps110
 go_wp2_with (go_at_call 163;refine H.out.mono ?_;rintro e w' ⟨rfl,k,rfl⟩)
 go_quiet (fail)
 go_wp2_with (go_at_call 132;refine(zHs _ _ (by omega)).mono ?_;rintro e w' ⟨rfl,rfl⟩)
 go_ret2
 exact⟨rfl,_,rfl⟩
end
def zCN(L:List Nd):Bool:=match L.getLast? with|some x=>decide (x.thread<0)|none=>false
def takeN(L:List Nd):Int × Bool × List Nd:=
 match L.getLast? with
 | none=>(0,false,L)
 | some x=>if 0<=x.thread then (0,false,L) else if zAS (bits .andNot .u64 x.back x.sleep)=-1 then (0,false,L) else
   (zAS (bits .andNot .u64 x.back x.sleep),true,L.dropLast++[{ x with thread:=zAS (bits .andNot .u64 x.back x.sleep) }])
theorem zJJ{L:List Nd}{x:Nd}(h:L.getLast?=some x):∃L0,L=L0++[x]:=by
 rcases List.eq_nil_or_concat L with rfl|⟨L0,y,rfl⟩
 ·simp at h
 ·rw[vY,List.getLast?_concat] at h;cases h;exact⟨L0,vY ..⟩
theorem zGo(w:World)(b:Nat)(v:Value)(L:List Nd)(h:zQ w b v L)(hok:zHJ L)(hT:zAq w):
 Calls Tryz.prog 110 #[.pointer (some ⟨b,0,none⟩)] w (zAi w b v (.tuple #[.int .i64 (takeN L).1,.bool (takeN L).2.1]) (takeN L).2.2):=by
 have none_case:takeN L=(0,false,L)->(Calls Tryz.prog 110 #[.pointer (some ⟨b,0,none⟩)] w λe w'=>e=.returned (.tuple #[(0:Int),false])/\∃k,w'=w.drewN k) →
  Calls Tryz.prog 110 #[.pointer (some ⟨b,0,none⟩)] w (zAi w b v (.tuple #[.int .i64 (takeN L).1,.bool (takeN L).2.1]) (takeN L).2.2):=by
  intro e hc
  rw[e];refine hc.mono ?_
  rintro e' w' ⟨rfl,k,rfl⟩
  exact⟨v,rfl,h.drewN k,(yB _ _).drewN k,λk hk=>.inl hk⟩
 cases hx:L.getLast? with
 | none =>
   have e:L=[]:=List.getLast?_eq_none_iff.1 hx;subst e;refine none_case rfl (zEJ _ _ ?_)
   rcases h.shape with⟨rfl,_⟩|⟨g,cap,rfl,_⟩
   ·exact zCO none b 0 w h.cell0
   ·exact zCO _ b cap w h.cell0
 | some x =>
   obtain⟨L0,rfl⟩:=zJJ hx;have hlen:(L0++[x]).length=L0.length+1:=by simp
   have hl60:L0.length<=60:=by have:=hok.1;omega
   have hxo:x.Ok:=hok.2 x (by simp);rcases h.shape with⟨_,e⟩|⟨g,cap,rfl,hg,hn,hm⟩
   ·simp at e
   have hget:=h.get (i:=L0.length) (x:=x) (by simp);by_cases ht:0<=x.thread
   ·refine none_case (by simp[takeN,ht]) (zEJ _ _ ?_)
    exact zEI b g L0.length cap _ w hl60 ht (J228 _) hget.2.2.2
   ·have htop:=zE7 b g L0.length cap _ w hl60 (by omega:x.thread<0) (J228 _) hget.2.2.2
    by_cases hl:zAS (bits .andNot .u64 x.back x.sleep)=-1
    ·exact none_case (by simp[takeN,ht,hl]) (zIB b g L0.length _ _ w hl60 hxo.1 hxo.2.1 hl htop hget.1 hget.2.1)
    ·have e:takeN (L0++[x])=(zAS (bits .andNot .u64 x.back x.sleep),true,L0++[{ x with thread:=zAS (bits .andNot .u64 x.back x.sleep) }]):=by simp[takeN,ht,hl]
     rw[e];refine(zGz b g L0.length _ _ _ w hl60 hxo.1 hxo.2.1 hT hl htop hget.1 hget.2.1 hget.2.2.2 (h.free _)).mono ?_
     rintro e' w' ⟨rfl,k,rfl⟩
     have hs:=(h.drewN k).set (i:=L0.length) (j:=3) (by decide) (x:=x) (y:={ x with thread:=zAS (bits .andNot .u64 x.back x.sleep) }) (by simp) (u:=.int .i64 (zAS (bits .andNot .u64 x.back x.sleep))) rfl;have e2:(L0++[x]).set L0.length { x with thread:=zAS (bits .andNot .u64 x.back x.sleep) }=L0++[{ x with thread:=zAS (bits .andNot .u64 x.back x.sleep) }]:=by simp
     rw[e2] at hs;exact⟨_,rfl,hs,((yB _ _).drewN k).setCell (λ_=>.inr rfl) _,λk hk=>.inl hk⟩
