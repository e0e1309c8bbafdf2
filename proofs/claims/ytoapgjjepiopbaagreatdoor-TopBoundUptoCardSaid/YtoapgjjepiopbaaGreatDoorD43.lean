/- Layer D: texts joined. -/
import Derived.Test.YtoapgjjepiopbaaGreatDoorD42
import Derived.Laws.CopyOwn
set_option linter.all false
set_option maxHeartbeats 1000000
namespace Go.Proofs.YtoapgjjepiopbaaGreatDoor
open Go.RowKit
theorem J38x42(P:Prop) (h:P:=by
 go_ret
 exact⟨rfl,rfl⟩):P:=h
theorem J60(P:Prop) (h:P:=by
 go_enter Tryz.func113,Tryz.ntmps113
 go_wp2
 refine xK (v:=.tuple #[.agg #[.int .u64 0,.int .u64 0,.int .u64 0,(0:Int)],false]) (by simp[results,Tryz.results113,go_sem]) rfl ⟨rfl,?_⟩
 exact(Below.refl _ _).alloc (yT _) _):P:=h
theorem J112(P:Prop) (h:P:=by
 intro t ht
 obtain⟨j,hj,rfl⟩:=List.mem_iff_getElem.1 ht;have:=h j hj
 simp[List.getD,hj] at this
 simpa using this):P:=h
theorem J124(P:Prop) (h:P:=by
 rcases h.shape with⟨rfl,rfl⟩|⟨g,cap,rfl,_⟩
 ·exact⟨_,_,rfl⟩
 ·exact⟨_,_,rfl⟩):P:=h
theorem J183x42(P:Prop)(h:P:=by rw[beq_eq_false_iff_ne];omega):P:=h
theorem zGN(b n cap:Nat)(a:Option Addr)(w:World)(hv:w.cell? ⟨b,0,none⟩=some (.slice a n cap)):
 Calls Tryz.prog 112 #[.pointer (some ⟨b,0,none⟩)] w λe w'=>e=.returned n/\w=w':=by
 go_enter Tryz.func112,Tryz.ntmps112
 go_wp2
 go_ret
 exact⟨rfl,rfl⟩
theorem zCk(w:World)(b:Nat)(v:Value)(L:List Nd)(h:zQ w b v L):
 Calls Tryz.prog 112 #[.pointer (some ⟨b,0,none⟩)] w λe w'=>e=.returned L.length/\w=w':=by
 rcases h.shape with⟨rfl,rfl⟩|⟨g,cap,rfl,_⟩
 ·exact zGN b 0 0 none w h.cell0
 ·exact zGN b _ cap _ w h.cell0
theorem zKG(w:World):
 Calls Tryz.prog 33 #[] w λe w'=>e=.returned (.pointer (some ⟨w.heap.size,0,none⟩))/\w'=w.alloc (.cells #[.slice none 0 0] 164 (0,0)):=by
 go_enter Tryz.func33,Tryz.ntmps33
 go_wp2
 go_ret
 exact⟨rfl,rfl⟩
theorem zQ.fresh(w:World):zQ (w.alloc (.cells #[.slice none 0 0] 164 (0,0))) w.heap.size (.slice none 0 0) []:=
 ⟨yG w _,World.ownsRow_nil _ _ _ _,by simp[Value.ownBlock]⟩
section
variable (a:Option Addr) (b g n cap:Nat) (sl bk dn t at_:Int) (w:World)
theorem zEF(hv:w.cell? ⟨b,0,none⟩=some (.slice a n cap))(h:at_<0\/n<=at_):
 Calls Tryz.prog 113 #[.pointer (some ⟨b,0,none⟩),at_] w λe w'=>e=.returned (.tuple #[.agg #[.int .u64 0,.int .u64 0,.int .u64 0,(0:Int)],false])/\Below w.heap.size w w':=by
 rcases h with h|h
 ·exact J60 _
 ·have h':¬at_<0:=by omega
  have q1:b<w.heap.size:=yR w _ hv;exact J60 _
theorem zG8(i:Nat)(hi:i<n)(hn:n<=61)(hv:w.cell? ⟨b,0,none⟩=some (.slice (some ⟨g,0,none⟩) n cap))
 (h0:w.cell? ⟨g,i*4,none⟩=some (.int .u64 sl)) (h1:w.cell? ⟨g,i*4+1,none⟩=some (.int .u64 bk)) (h2:w.cell? ⟨g,i*4+2,none⟩=some (.int .u64 dn)) (h3:w.cell? ⟨g,i*4+3,none⟩=some (.int .i64 t)):
 Calls Tryz.prog 113 #[.pointer (some ⟨b,0,none⟩),i] w λe w'=>e=.returned (.tuple #[.agg #[.int .u64 sl,.int .u64 bk,.int .u64 dn,t],true])/\Below w.heap.size w w':=by
 have e1:¬((i:Int)<0):=by omega
 have q1:b<w.heap.size:=yR w _ hv;have q2:g<w.heap.size:=yR w _ h0;go_enter Tryz.func113,Tryz.ntmps113
 go_wp2
 refine xK (v:=.tuple #[.agg #[.int .u64 sl,.int .u64 bk,.int .u64 dn,t],true]) (by simp[results,Tryz.results113,go_sem]) rfl ⟨rfl,?_⟩
 exact(Below.refl _ _).alloc (yT _) _
theorem zGc(h:Calls Tryz.prog 163 #[.pointer (some ⟨b,0,none⟩)] w λe w'=>e=.returned (.pointer none)/\∃k,w'=w.drewN k):
 Calls Tryz.prog 165 #[.pointer (some ⟨b,0,none⟩)] w λe w'=>e=.returned false/\∃k,w'=w.drewN k:=by
 have H:=yA h;clear h;go_enter Tryz.func165,Tryz.ntmps165
 go_wp2_with (go_at_call 163;refine H.out.mono ?_;rintro e w' ⟨rfl,k,rfl⟩)
 go_ret
 exact⟨rfl,_,rfl⟩
theorem zGS(p:Addr)(hcap:1<=cap)(h:Calls Tryz.prog 163 #[.pointer (some ⟨b,0,none⟩)] w λe w'=>e=.returned (.pointer (some p))/\∃k,w'=w.drewN k)
 (hv:w.cell? ⟨b,0,none⟩=some (.slice (some ⟨g,0,none⟩) 1 cap)) (hf:w.frozen? ⟨b,0,none⟩=false):
 Calls Tryz.prog 165 #[.pointer (some ⟨b,0,none⟩)] w λe w'=>e=.returned true/\∃k,w'=(w.drewN k).setCell ⟨b,0,none⟩ (.slice (some ⟨g,0,none⟩) 0 cap):=by
 have H:=yA h;clear h;go_enter Tryz.func165,Tryz.ntmps165
 go_wp2_with (go_at_call 163;refine H.out.mono ?_;rintro e w' ⟨rfl,k,rfl⟩)
 go_region
 go_wp2
 go_ret
 exact⟨rfl,_,rfl⟩
theorem zQ.shrink{w:World}{b g cap:Nat}{L:List Nd}(h:zQ w b (.slice (some ⟨g,0,none⟩) L.length cap) L)(n:Nat)(hn:n<=L.length):
 zQ (w.setCell ⟨b,0,none⟩ (.slice (some ⟨g,0,none⟩) n cap)) b (.slice (some ⟨g,0,none⟩) (L.take n).length cap) (L.take n):=by
 have hl:(L.take n).length=n:=by rw[List.length_take];omega
 have hg:g≠b:=λe=>h.apart (by rw[e];rfl)
 rw[hl];refine⟨one_setCell h.blk,?_,h.apart⟩
 have ho:=ownsRow_setCell_other h.own (a:=⟨b,0,none⟩) h.apart (.slice (some ⟨g,0,none⟩) n cap);refine⟨by rw[zJT],.inr ?_⟩
 rcases ho.2 with⟨h',_⟩|⟨g',cap',cur,h',hb,hgg,hnc,hcm,hcs,htake⟩
 ·simp at h'
 ·simp only[xH,yN,Addr.mk.injEq,and_true] at h'
  obtain⟨rfl,_,rfl⟩:=h';refine⟨g,cap,cur,by rw[hl],hb,hgg,by omega,hcm,hcs,?_⟩
  have:cur.toList.take ((L.take n).length*4)=(cur.toList.take (L.length*4)).take (n*4):=by
   rw[List.take_take,hl];congr 1;omega
  rw[this,htake];show(L.flatMap Nd.cells).take (n*4)=(L.take n).flatMap Nd.cells
  exact zKR _ 4 zH2 L n
def Nd.tried(x:Nd):Nd:=⟨zDa x.sleep x.thread,x.back,zDa x.done x.thread,-1⟩
theorem zLt(w:World)(b g cap k:Nat)(L0:List Nd)(x y:Nd)(o:Obj)(h:zQ w b (.slice (some ⟨g,0,none⟩) (L0++[x,y]).length cap) (L0++[x,y])):
 zAi w b (.slice (some ⟨g,0,none⟩) (L0++[x,y]).length cap) (.bool true) (L0++[x.tried]) (.returned true)
  (((((((w.drewN k).setCell ⟨b,0,none⟩ (.slice (some ⟨g,0,none⟩) (L0.length+1) cap)).alloc o).setCell ⟨g,L0.length*4,none⟩ (.int .u64 (zDa x.sleep x.thread))).setCell ⟨g,L0.length*4+1,none⟩ (.int .u64 x.back)).setCell ⟨g,L0.length*4+2,none⟩ (.int .u64 (zDa x.done x.thread))).setCell ⟨g,L0.length*4+3,none⟩ (.int .i64 (-1))).drew:=by
 have e0:(L0++[x,y]).take (L0.length+1)=L0++[x]:=by simp[List.take_append,vP]
 have h1:=(h.drewN k).shrink (L0.length+1) (by simp);rw[e0] at h1;have h2:=h1.alloc o;have es:∀z z':Nd,(L0++[z]).set L0.length z'=L0++[z']:=λz z'=>by simp
 have h3:=h2.set (i:=L0.length) (j:=0) (by decide) (x:=x) (y:={ x with sleep:=zDa x.sleep x.thread }) (by simp) (u:=.int .u64 (zDa x.sleep x.thread)) rfl;rw[es] at h3;have h4:=h3.set (i:=L0.length) (j:=1) (by decide) (x:={ x with sleep:=zDa x.sleep x.thread }) (y:={ x with sleep:=zDa x.sleep x.thread }) (by simp) (u:=.int .u64 x.back) rfl;rw[es] at h4;have h5:=h4.set (i:=L0.length) (j:=2) (by decide) (x:={ x with sleep:=zDa x.sleep x.thread }) (y:={ x with sleep:=zDa x.sleep x.thread,done:=zDa x.done x.thread }) (by simp) (u:=.int .u64 (zDa x.done x.thread)) rfl;rw[es] at h5;have h6:=h5.set (i:=L0.length) (j:=3) (by decide) (x:={ x with sleep:=zDa x.sleep x.thread,done:=zDa x.done x.thread }) (y:=x.tried) (by simp) (u:=.int .i64 (-1)) rfl;rw[es] at h6;refine⟨_,rfl,h6.drewN 1,?_,λk hk=>.inl hk⟩
 exact((((((((yB _ _).drewN k).setCell (λ_=>.inl rfl) _).alloc _).setCell (λ_=>.inr rfl) _).setCell (λ_=>.inr rfl) _).setCell (λ_=>.inr rfl) _).setCell (λ_=>.inr rfl) _).drew
theorem zGg(p:Addr)(hn:n<=59)(hcap:n+2<=cap)(hgb:g≠b)(h:Calls Tryz.prog 163 #[.pointer (some ⟨b,0,none⟩)] w λe w'=>e=.returned (.pointer (some p))/\∃k,w'=w.drewN k)
 (hv:w.cell? ⟨b,0,none⟩=some (.slice (some ⟨g,0,none⟩) (n+2) cap)) (hf:w.frozen? ⟨b,0,none⟩=false)
 (h0:w.cell? ⟨g,n*4,none⟩=some (.int .u64 sl)) (h1:w.cell? ⟨g,n*4+1,none⟩=some (.int .u64 bk)) (h2:w.cell? ⟨g,n*4+2,none⟩=some (.int .u64 dn)) (h3:w.cell? ⟨g,n*4+3,none⟩=some (.int .i64 t))
 (hfg:∀j,w.frozen? ⟨g,j,none⟩=false) (v:Value) (L':List Nd)
 (hR:∀k,zAi w b v (.bool true) L' (.returned true) (((((((w.drewN k).setCell ⟨b,0,none⟩ (.slice (some ⟨g,0,none⟩) (n+1) cap)).alloc (.cells #[.int .u64 sl,.int .u64 bk,.int .u64 dn,t] 211)).setCell ⟨g,n*4,none⟩ (.int .u64 (zDa sl t))).setCell ⟨g,n*4+1,none⟩ (.int .u64 bk)).setCell ⟨g,n*4+2,none⟩ (.int .u64 (zDa dn t))).setCell ⟨g,n*4+3,none⟩ (.int .i64 (-1))).drew):
 Calls Tryz.prog 165 #[.pointer (some ⟨b,0,none⟩)] w (zAi w b v (.bool true) L'):=by
 have HR:=yA hR;clear hR;have H:=yA h;have e1:=zF5 (n+1) (by omega);have e2:=zF5 n (by omega);have q1:b<w.heap.size:=yR w _ hv;have q2:g<w.heap.size:=yR w _ h0;clear h;go_enter Tryz.func165,Tryz.ntmps165
 go_wp2_with (go_at_call 163;refine H.out.mono ?_;rintro e w' ⟨rfl,k,rfl⟩)
 go_region
 go_wp2
 obtain⟨W,hW⟩:=eX (((w.drewN (k+1)).setCell ⟨b,0,none⟩ (.slice (some ⟨g,0,none⟩) (n+1) cap)).alloc (.cells #[.int .u64 sl,.int .u64 bk,.int .u64 dn,t] 211));rw[<-hW];have hv':W.cell? ⟨b,0,none⟩=some (.slice (some ⟨g,0,none⟩) (n+1) cap):=by rw[hW];go_simp
 have l0:W.cell? ⟨w.heap.size,0,none⟩=some (.int .u64 sl):=by rw[hW];go_simp
 have l1:W.cell? ⟨w.heap.size,1,none⟩=some (.int .u64 bk):=by rw[hW];go_simp
 have l2:W.cell? ⟨w.heap.size,2,none⟩=some (.int .u64 dn):=by rw[hW];go_simp
 have l3:W.cell? ⟨w.heap.size,3,none⟩=some (.int .i64 t):=by rw[hW];go_simp
 have g0:W.cell? ⟨g,n*4,none⟩=some (.int .u64 sl):=by rw[hW];go_simp
 have g1:W.cell? ⟨g,n*4+1,none⟩=some (.int .u64 bk):=by rw[hW];go_simp
 have g2:W.cell? ⟨g,n*4+2,none⟩=some (.int .u64 dn):=by rw[hW];go_simp
 have g3:W.cell? ⟨g,n*4+3,none⟩=some (.int .i64 t):=by rw[hW];go_simp
 have f0:W.frozen? ⟨g,n*4,none⟩=false:=by rw[hW];go_simp
 have f1:W.frozen? ⟨g,n*4+1,none⟩=false:=by rw[hW];go_simp
 have f2:W.frozen? ⟨g,n*4+2,none⟩=false:=by rw[hW];go_simp
 have f3:W.frozen? ⟨g,n*4+3,none⟩=false:=by rw[hW];go_simp
 have HW:=yA hW;have q3:w.heap.size≠g:=by omega
 have q4:g≠w.heap.size:=by omega
 clear hW h0 h1 h2 h3 hfg hv hf q1 q2;have e3:(0:Int)<=n:=by omega
 have e4:(n:Int)<(n:Int)+1:=by omega
 have e5:(n:Int)+1-1=n:=by omega
 go_region_held3 (λw'=>w'.cell? ⟨b,0,none⟩=some (.slice (some ⟨g,0,none⟩) (n+1) cap)/\w'.cell? ⟨w.heap.size,0,none⟩=some (.int .u64 sl)/\w'.cell? ⟨w.heap.size,1,none⟩=some (.int .u64 bk)/\w'.cell? ⟨w.heap.size,2,none⟩=some (.int .u64 dn)/\w'.cell? ⟨w.heap.size,3,none⟩=some (.int .i64 t)) (go_keep)
  (first|(go_at_call 173;refine(zLE _ _ _).mono ?_;rintro e w' ⟨rfl,rfl⟩))
 go_wp2
 go_ret
 rw[HW.out];exact HR.out (k+1)
end
def zC6(L:List Nd):Bool × List Nd:=
 if zCN L then (true,match L.dropLast.getLast? with|none=>[]|some x=>L.dropLast.dropLast++[x.tried]) else (false,L)
theorem zGQ{w:World}{b:Nat}{v:Value}{L:List Nd}(h:zQ w b v L)(r:Value)(k:Nat):zAi w b v r L (.returned r) (w.drewN k):=
 ⟨v,rfl,h.drewN k,(yB _ _).drewN k,λk hk=>.inl hk⟩
theorem zKw(w:World)(b:Nat)(v:Value)(L:List Nd)(h:zQ w b v L)(hok:zHJ L):
 (zCN L=false->Calls Tryz.prog 163 #[.pointer (some ⟨b,0,none⟩)] w λe w'=>e=.returned (.pointer none)/\∃k,w'=w.drewN k) ∧
 (zCN L=true->∃g cap,v=.slice (some ⟨g,0,none⟩) L.length cap/\Calls Tryz.prog 163 #[.pointer (some ⟨b,0,none⟩)] w λe w'=>e=.returned (.pointer (some ⟨g,(L.length-1)*4,none⟩))/\∃k,w'=w.drewN k):=by
 cases hx:L.getLast? with
 | none =>
   have e:L=[]:=List.getLast?_eq_none_iff.1 hx;subst e;refine⟨λ_=>?_,λh'=>by simp[zCN] at h'⟩
   rcases h.shape with⟨rfl,_⟩|⟨g,cap,rfl,_⟩
   ·exact zCO none b 0 w h.cell0
   ·exact zCO _ b cap w h.cell0
 | some x =>
   obtain⟨L0,rfl⟩:=zJJ hx;have hlen:(L0++[x]).length=L0.length+1:=by simp
   have hl60:L0.length<=60:=by have:=hok.1;omega
   rcases h.shape with⟨_,e⟩|⟨g,cap,rfl,hg,hn,hm⟩
   ·simp at e
   have hget:=h.get (i:=L0.length) (x:=x) (by simp);refine⟨λht=>?_,λht=>⟨g,cap,rfl,?_⟩⟩
   ·simp only[zCN,hx,decide_eq_false_iff_not] at ht
    exact zEI b g L0.length cap _ w hl60 (by omega) (J228 _) hget.2.2.2
   ·simp only[zCN,hx,yV] at ht
    rw[show(L0++[x]).length-1=L0.length by simp];exact zE7 b g L0.length cap _ w hl60 ht (J228 _) hget.2.2.2
theorem zHS(w:World)(b:Nat)(v:Value)(L:List Nd)(h:zQ w b v L)(hok:zHJ L):
 Calls Tryz.prog 165 #[.pointer (some ⟨b,0,none⟩)] w (zAi w b v (.bool (zC6 L).1) (zC6 L).2):=by
 obtain⟨t1,t2⟩:=zKw w b v L h hok;cases ht:zCN L with
 | false =>
   rw[show zC6 L=(false,L) by simp[zC6,ht]];refine(zGc b w (t1 ht)).mono ?_
   rintro e w' ⟨rfl,k,rfl⟩
   exact zGQ h _ k
 | true =>
   obtain⟨g,cap,rfl,hc⟩:=t2 ht
   have hcap:L.length<=cap:=by
    rcases h.shape with⟨e,_⟩|⟨g',cap',e,_,h1,_⟩
    ·simp at e
    ·simp at e;omega
   rcases List.eq_nil_or_concat L with rfl|⟨L1,y,rfl⟩
   ·simp[zCN] at ht
   rw[vY] at *;rcases List.eq_nil_or_concat L1 with rfl|⟨L0,x,rfl⟩
   ·rw[show zC6 ([]++[y])=(true,[]) by unfold zC6;rw[if_pos ht];rfl]
    refine(zGS b g cap w _ (by simpa using hcap) hc h.cell0 h.zNi).mono ?_
    rintro e w' ⟨rfl,k,rfl⟩
    have h1:=(h.drewN k).shrink 0 (by simp);exact⟨_,rfl,h1,((yB _ _).drewN k).setCell (λ_=>.inl rfl) _,λk hk=>.inl hk⟩
   ·rw[vY,vI] at *
    have hlen:(L0++([x]++[y])).length=L0.length+2:=by simp
    rw[show zC6 (L0++([x]++[y]))=(true,L0++[x.tried]) by
     unfold zC6;rw[if_pos ht,<-vI,List.dropLast_concat,List.getLast?_concat,List.dropLast_concat]]
    have hget:=h.get (i:=L0.length) (x:=x) (by simp);have hg:g≠b:=λe=>h.apart (by rw[e];rfl)
    refine zGg b g L0.length cap x.sleep x.back x.done x.thread w _ (by have:=hok.1;omega) (by omega) hg hc (J228 _) h.zNi hget.1 hget.2.1 hget.2.2.1 hget.2.2.2 (λj=>h.free j) _ _ ?_
    intro k
    exact zLt w b g cap k L0 x y _ h
def zFQ(a e:Int):Nd:=⟨a % 256,zDa 0 (zAS (bits .andNot .u64 e (a % 256))),0,-1⟩
def zD9(L:List Nd)(a e:Int):Bool × List Nd:=if L.length=61\/zCN L=true then (false,L) else (true,L++[zFQ a e])
theorem zN4:(Tryz.prog.info? 211).map (λi=>(i.zero,i.size,i.bytes))=some (some (.agg #[.int .u64 0,.int .u64 0,.int .u64 0,(0:Int)]),4,32):=by kernel_rfl
theorem zNb(w W w1:World)(b:Nat)(v:Value)(L:List Nd)(x:Nd)(g cap k:Nat)(h:zQ w b v L)(hW:Keeps zA w W)
 (hown:w1.ownsRow 0 211 4 (.slice (some ⟨g,0,none⟩) (L.length+1) cap) (L.length+1) (zCd L++x.cells)) (hg:W.grownBy w1 v.ownBlock) (hat:v.ownBlock=some g\/g=W.heap.size):
 zAi w b v (.bool true) (L++[x]) (.returned true) ((w1.setCell ⟨b,0,none⟩ (.slice (some ⟨g,0,none⟩) (L.length+1) cap)).drewN k):=by
 have hb:=lt_of_block h.blk;have hbW:W.heap.size ≥ w.heap.size:=hW.size
 have hgb:g≠b:=by
  rcases hat with e|e
  ·exact λe'=>h.apart (by rw[e,e'])
  ·omega
 have hblk:w1.heap[b]?=some (.cells #[v] 164 (0,0)):=by
  rw[hg.block b (by omega) (λe=>h.apart e.symm)];exact hW.heap (λh=>h) h.blk
 have hlen:(L++[x]).length=L.length+1:=by simp
 refine⟨.slice (some ⟨g,0,none⟩) (L.length+1) cap,rfl,⟨one_setCell hblk,?_,by simp[Value.ownBlock,hgb]⟩,?_,?_⟩
 ·have:=ownsRow_setCell_other hown (a:=⟨b,0,none⟩) (by simp[Value.ownBlock,hgb]) (.slice (some ⟨g,0,none⟩) (L.length+1) cap)
  rw[hlen];rw[show zCd (L++[x])=zCd L++x.cells by simp[zCd]];exact this
 ·exact(((hW.mono (λ_ _ h=>h.elim)).grown hg (λk e _=>.inr e)).setCell (λ_=>.inl rfl) _).drewN _
 ·intro k e
  simp[Value.ownBlock] at e
  subst e;rcases hat with e|e
  ·exact .inl e
  ·exact .inr (by omega)
section
variable (b n:Nat) (v:Value) (xs:List Value) (a e:Int) (w:World)
theorem zG1(cap:Nat)(ad:Option Addr)(hv:w.cell? ⟨b,0,none⟩=some (.slice ad 61 cap)):
 Calls Tryz.prog 122 #[.pointer (some ⟨b,0,none⟩),.int .u64 a,.int .u64 e] w λr w'=>r=.returned false/\∃k,w'=w.drewN k:=by
 go_enter Tryz.func122,Tryz.ntmps122
 go_wp2
 go_ret
 exact⟨rfl,0,rfl⟩
theorem zG9(cap:Nat)(ad:Option Addr)(p:Addr)(hn:n<61)(hv:w.cell? ⟨b,0,none⟩=some (.slice ad n cap))
 (h:Calls Tryz.prog 163 #[.pointer (some ⟨b,0,none⟩)] w λe w'=>e=.returned (.pointer (some p))/\∃k,w'=w.drewN k):
 Calls Tryz.prog 122 #[.pointer (some ⟨b,0,none⟩),.int .u64 a,.int .u64 e] w λr w'=>r=.returned false/\∃k,w'=w.drewN k:=by
 have H:=yA h;have e1:((n:Int)==61)=false:=J183x42 _;clear h;go_enter Tryz.func122,Tryz.ntmps122
 go_wp2_with (go_at_call 163;refine H.out.mono ?_;rintro e w' ⟨rfl,k,rfl⟩)
 go_ret
 exact⟨rfl,_,rfl⟩
theorem zGx(cap:Nat)(ad:Option Addr)(hn:n<61)(hv:w.cell? ⟨b,0,none⟩=some (.slice ad n cap))(hf:w.frozen? ⟨b,0,none⟩=false)
 (hne:(Value.slice ad n cap).ownBlock≠some b) (hown:w.ownsRow 0 211 4 (.slice ad n cap) n xs)
 (ha:0<=a/\a<18446744073709551616) (he:0<=e/\e<18446744073709551616) (hT:zAq w)
 (h:Calls Tryz.prog 163 #[.pointer (some ⟨b,0,none⟩)] w λe w'=>e=.returned (.pointer none)/\∃k,w'=w.drewN k) (L':List Nd)
 (hR:∀W w1 g cap' k,Keeps zA w W->w1.ownsRow 0 211 4 (.slice (some ⟨g,0,none⟩) (n+1) cap') (n+1) (xs++(zFQ a e).cells)->W.grownBy w1 (Value.slice ad n cap).ownBlock->((Value.slice ad n cap).ownBlock=some g\/g=W.heap.size) →
   zAi w b (.slice ad n cap) (.bool true) L' (.returned true) ((w1.setCell ⟨b,0,none⟩ (.slice (some ⟨g,0,none⟩) (n+1) cap')).drewN k)):
 Calls Tryz.prog 122 #[.pointer (some ⟨b,0,none⟩),.int .u64 a,.int .u64 e] w (zAi w b (.slice ad n cap) (.bool true) L'):=by
 have H:=yA h;have HR:=yA hR;have HT:=yA hT;have HO:=yA hown;have e1:((n:Int)==61)=false:=J183x42 _;have e2:=zJ1 a ha;have hbd:=zFI e (a % 256) he (by omega);have q1:b<w.heap.size:=yR w _ hv;have q2:b≠w.heap.size:=by omega
 have q3:w.heap.size≠b:=by omega
 clear h hR hT hown;go_enter Tryz.func122,Tryz.ntmps122
 go_wp2_with (go_at_call 163;refine H.out.mono ?_;rintro e W ⟨rfl,k,hk⟩;have hv1:W.cell? ⟨b,0,none⟩=some (.slice ad n cap):=(by rw[hk];exact hv);have hf1:W.frozen? ⟨b,0,none⟩=false:=(by rw[hk];exact hf);have q1:b<W.heap.size:=(by rw[hk];exact q1);have q2:b≠W.heap.size:=(by omega);have q3:W.heap.size≠b:=(by omega);have HT1:Hid (zAq W):=(by rw[hk];exact HT.out);have HO1:Hid (W.ownsRow 0 211 4 (.slice ad n cap) n xs):=(by rw[hk];exact HO.out);have Hk:Hid (Keeps zA w W):=(by rw[hk];exact(yB _ _).drewN _);clear hk hv hf)
 have HT2:∀o:Obj,zAq (W.alloc o).drew:=λo j hj=>by
  have h1:=HT1.out j hj;rw[<-h1];exact World.cell?_of_block (Below.heap_alloc _ _ _ (yR W _ h1))
 have HT3:=yA HT2;clear HT2;go_region_with (first|(go_at_call 173;refine(zLE _ _ _).mono ?_;rintro e w' ⟨rfl,rfl⟩)|(go_at_call 164;refine(zHc _ _ (by omega) (by exact HT3.out _)).mono ?_;rintro e w' ⟨rfl,rfl⟩))
 all_goals (
  go_wp2_with fail
  obtain⟨i0,hi0,hz0,hz1,hz2⟩:=info_parts zN4;go_region_law ((refine step_append_lies _ (by rfl) _ _ _ (by rfl) 0 211 i0 _ 4 32 Tryz.underlying162 hi0 hz0 hz1 hz2 rfl (by decide) (.slice ad n cap) n xs (by rfl) (by exact zD HO1.out (S:=zA) (by repeat (first|exact yB _ _|apply Keeps.drew|apply Keeps.alloc)) (λ_ _ h=>h)) ⟨W.heap.size+1,0,none⟩ 1 1 (zFQ a e).cells (by rfl) (by rfl) (World.news_of_block (cs:=(zFQ a e).cells.toArray) (t:=211) (fr:=(0,0)) (by exact zAH W _ _)) (by simp[Value.oneCell',zFQ,Nd.cells]) (by omega) (by unfold maxLen;omega) (by omega) (by simp) (W.heap.size+2) (by simp) ?_;intro gg cap' w1 hown1 hgrow hat hlt;have hv2:w1.cell? ⟨b,0,none⟩=some (.slice ad n cap):=(hgrow.cell (by go_simp) (Ne.symm hne));have hf2:w1.frozen? ⟨b,0,none⟩=false:=(by rw[hgrow.frozen_far _ (by simp;omega) (Ne.symm hne)];go_simp)))
  all_goals (
   go_wp2
   go_ret
   exact HR.out _ w1 gg cap' 0 (by repeat (first|exact Hk.out|apply Keeps.drew|apply Keeps.alloc)) hown1 hgrow (by exact hat.imp_right (λh=>(by simpa using h)))))
theorem zIe(w:World)(b:Nat)(v:Value)(L:List Nd)(a e:Int)(h:zQ w b v L)(hok:zHJ L)(hT:zAq w)
 (ha:0<=a/\a<18446744073709551616) (he:0<=e/\e<18446744073709551616):
 Calls Tryz.prog 122 #[.pointer (some ⟨b,0,none⟩),.int .u64 a,.int .u64 e] w (zAi w b v (.bool (zD9 L a e).1) (zD9 L a e).2):=by
 obtain⟨t1,t2⟩:=zKw w b v L h hok
 obtain⟨ad,n,cap,rfl,hn⟩:∃ad n cap,v=.slice ad n cap/\n=L.length:=by
  rcases h.shape with⟨rfl,rfl⟩|⟨g,cap,rfl,_⟩
  ·exact⟨_,_,_,rfl,rfl⟩
  ·exact⟨_,_,_,rfl,rfl⟩
 subst hn;by_cases h61:L.length=61
 ·rw[show zD9 L a e=(false,L) by simp[zD9,h61]]
  have hv:=h.cell0;rw[h61] at hv;refine(zG1 b a e w cap ad hv).mono ?_
  rintro r w' ⟨rfl,k,rfl⟩
  exact zGQ h _ k
 ·have hlt:L.length<61:=by have:=hok.1;omega
  cases ht:zCN L with
  | true =>
    rw[show zD9 L a e=(false,L) by simp[zD9,ht]];obtain⟨g,cap',_,hc⟩:=t2 ht;refine(zG9 b L.length a e w cap ad _ hlt h.cell0 hc).mono ?_
    rintro r w' ⟨rfl,k,rfl⟩
    exact zGQ h _ k
  | false =>
    rw[show zD9 L a e=(true,L++[zFQ a e]) by simp[zD9,ht,h61]];exact zGx b L.length (zCd L) a e w cap ad hlt h.cell0 h.zNi h.apart h.own ha he hT (t1 ht) _ (λW w1 g cap' k hk ho hg hat=>zNb w W w1 b _ L _ g cap' k h hk ho hg hat)
end
theorem zM2(w:World)(b:Nat)(v:Value)(L:List Nd)(i:Int)(h:zQ w b v L)(hok:zHJ L):
 Calls Tryz.prog 113 #[.pointer (some ⟨b,0,none⟩),i] w λe w'=>e=.returned (match (if i<0 then none else L[i.toNat]?) with|none=>.tuple #[.agg #[.int .u64 0,.int .u64 0,.int .u64 0,(0:Int)],false]|some x=>.tuple #[.agg #[.int .u64 x.sleep,.int .u64 x.back,.int .u64 x.done,x.thread],true])/\Below w.heap.size w w':=by
 obtain⟨ad,cap,rfl⟩:∃ad cap,v=.slice ad L.length cap:=by
  exact J124 _
 by_cases hi:i<0
 ·rw[if_pos hi]
  exact zEF ad b L.length cap i w h.cell0 (.inl hi)
 ·rw[if_neg hi]
  cases hx:L[i.toNat]? with
  | none=>exact zEF ad b L.length cap i w h.cell0 (.inr (by have:=List.getElem?_eq_none_iff.1 hx;omega))
  | some x =>
    have hlt:=(yP.1 hx).1;obtain⟨j,rfl⟩:=Int.eq_ofNat_of_zero_le (show 0<=i by omega);rcases h.shape with⟨_,e⟩|⟨g,cap',e,_⟩
    ·subst e;simp at hlt
    ·simp at e
     obtain⟨rfl,rfl⟩:=e;have hg:=h.get hx;exact zG8 b g L.length cap x.sleep x.back x.done x.thread w j (by simpa using hlt) hok.1 h.cell0 (by simpa using hg.1) (by simpa using hg.2.1) (by simpa using hg.2.2.1) (by simpa using hg.2.2.2)
theorem zKn(t:Int)(w:World):Calls Tryz.prog 130 #[t] w λe w'=>e=.returned (.bool (decide (t<0)))/\w=w':=by
 go_enter Tryz.func130,Tryz.ntmps130
 go_wp2
 exact J38x42 _
theorem zE6(v:Value)(xs:List Int)(m:Int)(w:World)(hx:zBm w v xs)(h1:xs.length<=maxLen)
 (hm:(m=-1/\∀j,j<xs.length->0<=xs.getD j 0)\/(∃i:Nat,m=i/\i<xs.length/\xs.getD i 0<0/\∀j,j<i->0<=xs.getD j 0)):
 Calls Tryz.prog 186 #[v,.func (.func 130) #[] #[]] w λe w'=>e=.returned m/\w=w':=by
 obtain⟨ad,cap,rfl,hx1,hx2⟩:=hx;unfold maxLen at h1;have HM:=yA hm;clear hm;go_enter Tryz.func186,Tryz.ntmps186
 go_wp2
 go_loop [8] (λi=>∃k:Nat,k<=xs.length/\i=.int .i64 k/\Hid (∀j,j<k->0<=xs.getD j 0)) (λi=>xs.length-(intOf i).toNat)
 case atStart=>exact⟨0,yF _,rfl,λj hj=>absurd hj (Nat.not_lt_zero _)⟩
 case round =>
  obtain⟨k,hk,rfl,hj⟩:=hrel;by_cases hlt:k<xs.length
  ·have i1:(0:Int)<=k:=by omega
   have i2:(k:Int)<(xs.length:Int):=by omega
   obtain⟨g,o,e⟩:∃g o,ad=some ⟨g,o,none⟩:=by
    cases ad with
    | none=>have:=hx1 rfl;subst this;simp at hlt
    | some a=>obtain⟨g,o,s⟩:=a;have:=(hx2 g o s rfl).1;subst this;exact⟨g,o,rfl⟩
   have c1:=(hx2 g o none e).2 k hlt;subst e;obtain⟨x,ex⟩:=eX (xs.getD k 0);rw[<-ex] at c1;by_cases hE:x<0
   ·have hE':decide (x<0)=true:=by simpa using hE
    have HF:Hid (m=(k:Int)):=by
     rcases HM.out with⟨_,h⟩|⟨i,e,hi,h2,h3⟩
     ·have:=h k hlt;omega
     ·rcases Nat.lt_trichotomy i k with h|h|h
      ·have:=hj.out i h;omega
      ·show m=(k:Int);rw[e,h]
      ·have:=h3 k h;omega
    clear hx1 hx2 HM hE ex;go_wp2_with (go_at_call 130;refine(zKn _ _).mono ?_;rintro e w' ⟨rfl,rfl⟩)
    go_ret
    exact⟨by rw[HF.out];rfl,rfl⟩
   ·have hE':decide (x<0)=false:=by simpa using hE
    have HS:=yA (show 0<=xs.getD k 0 by omega);clear hx1 hx2 hE ex;go_wp2_with (go_at_call 130;refine(zKn _ _).mono ?_;rintro e w' ⟨rfl,rfl⟩)
    go_round
    case rel=>exact⟨k+1,by omega,by go_num,λj hj'=>by
     rcases Nat.lt_succ_iff_lt_or_eq.1 hj' with h|rfl
     ·exact hj.out j h
     ·exact HS.out⟩
    case measure=>simp[intOf];omega
  ·have hkn:k=xs.length:=by omega
   subst hkn
   have HF:Hid (m=-1):=by
    rcases HM.out with⟨e,_⟩|⟨i,e,hi,h2,h3⟩
    ·exact e
    ·have:=hj.out i hi;omega
   clear hx1 hx2 hlt HM;go_wp2
   go_ret
   exact⟨by rw[HF.out];rfl,rfl⟩
theorem zHA(g o c:Nat)(t:Value)(w:World)(h:w.cell? ⟨g,o,none⟩=some t)(hf:w.frozen? ⟨g,o,none⟩=false):
 (Builtin.clear_ #[22] 0 #[.slice (some ⟨g,o,none⟩) 1 c]).run Tryz.prog w=.ok (.tuple #[]) (w.setCell ⟨g,o,none⟩ (.int .i64 0)):=by
 have hz:(zeroValue 3).run Tryz.prog w=.ok (.int .i64 0) w:=by kernel_rfl
 simp[Builtin.clear_,hz,Builtin.zeroCells,go_sem,Tryz.underlying22,h,hf]
theorem zGe(v:Value)(xs:List Int)(w:World)(hx:zBm w v xs)(h1:xs.length<=maxLen)(h:∀j,j<xs.length->0<=xs.getD j 0):
 Calls Tryz.prog 129 #[v,.func (.func 130) #[] #[]] w λe w'=>e=.returned v/\w=w':=by
 have HI:=yA (zE6 v xs (-1) w hx h1 (.inl ⟨rfl,h⟩));clear hx h;go_enter Tryz.func129,Tryz.ntmps129
 go_wp2_with (go_at_call 186;refine HI.out.mono ?_;rintro e w' ⟨rfl,rfl⟩)
 go_ret
 exact⟨rfl,rfl⟩
theorem zGl(g cap n:Nat)(t:Int)(xs:List Int)(w:World)(hn:xs.length=n)(hcap:n+1<=cap)(hc:cap<=maxLen)(hx:zBm w (.slice (some ⟨g,0,none⟩) (n+1) cap) (xs++[t]))(h:∀j,j<n->0<=xs.getD j 0)(ht:t<0)
 (hf:w.frozen? ⟨g,n,none⟩=false):
 Calls Tryz.prog 129 #[.slice (some ⟨g,0,none⟩) (n+1) cap,.func (.func 130) #[] #[]] w λe w'=>e=.returned (.slice (some ⟨g,0,none⟩) n cap)/\w'=w.setCell ⟨g,n,none⟩ (.int .i64 0):=by
 subst hn;unfold maxLen at hc;have hl:xs.length+1<=maxLen:=by unfold maxLen;omega
 have HI:=yA (zE6 (.slice (some ⟨g,0,none⟩) (xs.length+1) cap) (xs++[t]) (xs.length:Int) w hx (by simpa using hl) (.inr ⟨xs.length,rfl,by simp,by simpa using ht,λj hj=>by have:=h j hj;simpa [List.getD,xL hj] using this⟩))
 have hcell:w.cell? ⟨g,xs.length,none⟩=some (.int .i64 t):=by
  obtain⟨ad,cap',e,_,h2⟩:=hx;simp at e
  have:=(h2 g 0 none e.1.symm).2 xs.length (by simp)
  simpa using this
 have e1:((xs.length:Int)==-1)=false:=J183x42 _;have hcl:=λc=>zHA g xs.length c _ w hcell hf
 clear hx h ht;go_enter Tryz.func129,Tryz.ntmps129
 go_wp2_with (go_at_call 186;refine HI.out.mono ?_;rintro e w' ⟨rfl,rfl⟩)
 refine wp_loop_once ?_
 go_wp2
 go_ret
 exact⟨rfl,rfl⟩
theorem zLS(c:Int)(hc:0<=c/\c<=1000)(w:World):
 Calls Tryz.prog 155 #[.int .u64 1,.int .u64 c] w λe w'=>e=.returned (.tuple #[.int .u64 0,.int .u64 c])/\w=w':=by
 have h1:bits .and .u64 c 4294967295=c:=by
  rw[u64_and c _ hc.1 (by omega) (by decide) (by decide),show((4294967295:Int).toNat)=4294967295 from rfl,nat_mask32];omega
 have h2:bits .and .u64 1 4294967295=1:=by decide
 have h3:c / 4294967296=0:=by omega
 have h4:bits .and .u64 0 4294967295=0:=by decide
 go_enter Tryz.func155,Tryz.ntmps155
 go_wp2
 go_ret2
 exact⟨rfl,rfl⟩
theorem mul_one(c:Int)(hc:0<=c/\c<=1000)(w:World):
 Calls Tryz.prog 100 #[.int .u64 1,.int .u64 c] w λe w'=>e=.returned (.tuple #[.int .u64 0,.int .u64 c])/\w=w':=by
 go_enter Tryz.func100,Tryz.ntmps100
 go_wp2_with (go_at_call 155;refine(zLS _ hc _).mono ?_;rintro e w' ⟨rfl,rfl⟩)
 go_ret2
 exact⟨rfl,rfl⟩
theorem zJI:(Tryz.prog.info? 3).map (λi=>(i.zero,i.size,i.bytes))=some (some (.int .i64 0),1,8):=by kernel_rfl
theorem zOz:(Tryz.prog.info? 3).map (·.size)=some 1:=by kernel_rfl
theorem zIP{w:World}{base e g n:Nat}{xs:List Value}(h:w.ownsRow base e 1 (.slice (some ⟨g,0,none⟩) n n) n xs):w.heap[g]?=some (.cells xs.toArray e (0,0)):=by
 rcases h.2 with⟨h',_⟩|⟨g',cap',cur,h',_,hg,_,_,hs,ht⟩
 ·simp at h'
 ·simp only[xH,yN,Addr.mk.injEq,and_true,yh] at h'
  obtain⟨rfl,rfl⟩:=h';rw[hg];have:xs=cur.toList:=by rw[<-ht,vP (by rw[Array.length_toList,hs];exact yT _)]
  rw[this]
def zCl(w:World)(xs:List Int)(e:Ending)(w':World):Prop:=
 ∃v,e=.returned v/\zBm w' v xs/\Below w.heap.size w w'/\∀k,v.ownBlock=some k->w.heap.size<=k/\k<w'.heap.size
def zDc(ts:List Int):List Int:=ts.filter λt=>decide (0<=t)
theorem zEE(w w1:World)(n:Nat)(ts:List Int)(hn:ts.length=n)(hown:w1.ownsRow 0 3 1 (.slice (some ⟨w.heap.size,0,none⟩) n n) n (ts.map (Value.int .i64)))(hb:Below w.heap.size w w1)(h:∀j,j<n->0<=ts.getD j 0)(hm:n<=maxLen):
 Calls Tryz.prog 129 #[.slice (some ⟨w.heap.size,0,none⟩) n n,.func (.func 130) #[] #[]] w1 (zCl w (zDc ts)):=by
 subst hn;have hi:=zBm.ofRow hown;refine(zGe _ ts w1 hi hm h).mono ?_
 rintro e w' ⟨rfl,rfl⟩
 have hp:zDc ts=ts:=by
  unfold zDc;rw[List.filter_eq_self];exact J112 _
 rw[hp];have hlt:=(hown.lt w.heap.size rfl).2;exact⟨_,rfl,hi,hb,λk hk=>by simp[Value.ownBlock] at hk;omega⟩
theorem zG2(w w1:World)(n:Nat)(ts:List Int)(t:Int)(hn:ts.length=n)(hown:w1.ownsRow 0 3 1 (.slice (some ⟨w.heap.size,0,none⟩) (n+1) (n+1)) (n+1) ((ts++[t]).map (Value.int .i64)))(hb:Below w.heap.size w w1)(h:∀j,j<n->0<=ts.getD j 0)(ht:t<0)(hm:n+1<=maxLen):
 Calls Tryz.prog 129 #[.slice (some ⟨w.heap.size,0,none⟩) (n+1) (n+1),.func (.func 130) #[] #[]] w1 (zCl w (zDc (ts++[t]))):=by
 subst hn;have e0:(ts++[t]).length=ts.length+1:=by simp
 have hi:zBm w1 (.slice (some ⟨w.heap.size,0,none⟩) (ts.length+1) (ts.length+1)) (ts++[t]):=zBm.ofRow (by rw[e0];exact hown);refine(zGl w.heap.size (ts.length+1) ts.length t ts w1 rfl (yT _) hm hi h ht (hown.frozenAt _)).mono ?_
 rintro e w' ⟨rfl,rfl⟩
 have hp:zDc (ts++[t])=ts:=by
  unfold zDc;rw[List.filter_append,List.filter_eq_self.2,List.filter_cons_of_neg (by simpa using ht)]
  ·simp
  ·exact J112 _
 rw[hp];refine⟨_,rfl,?_,hb.setCell (yT _) _,λk hk=>by simp[Value.ownBlock] at hk;have hlt:=(hown.lt w.heap.size rfl).2;simp[World.setCell];omega⟩
 refine⟨_,_,rfl,(λe=>by cases e),λg o s e=>?_⟩
 cases e;refine⟨rfl,λi hi'=>?_⟩
 obtain⟨ad,cap,e,_,h2⟩:=hi;simp at e
 have h3:=(h2 _ 0 none e.1.symm).2 i (by simp;omega);have e3:(ts++[t]).getD i 0=ts.getD i 0:=by simp[List.getD,xL hi']
 rw[e3] at h3;exact(uZ (a:=⟨w.heap.size,ts.length,none⟩) (b:=⟨w.heap.size,0+i,none⟩) _ _ (by intro e;have h9:ts.length=0+i:=congrArg Addr.off e;omega)).trans h3
theorem zOE(b n cap:Nat)(ad:Option Addr)(ts:List Int)(w:World)(hts:ts.length=n)(hv:w.cell? ⟨b,0,none⟩=some (.slice ad n cap))(hn:n<=61)
 (hc:∀k,k<n->∃g s bk d,ad=some ⟨g,0,none⟩/\w.cell? ⟨g,k*4,none⟩=some (.int .u64 s)/\w.cell? ⟨g,k*4+1,none⟩=some (.int .u64 bk)/\w.cell? ⟨g,k*4+2,none⟩=some (.int .u64 d)/\w.cell? ⟨g,k*4+3,none⟩=some (.int .i64 (ts.getD k 0)))
 (hfin:∀w1,w1.ownsRow 0 3 1 (.slice (some ⟨w.heap.size,0,none⟩) n n) n (ts.map (Value.int .i64))->Below w.heap.size w w1 →
   Calls Tryz.prog 129 #[.slice (some ⟨w.heap.size,0,none⟩) n n,.func (.func 130) #[] #[]] w1 (zCl w (zDc ts))):
 Calls Tryz.prog 79 #[.pointer (some ⟨b,0,none⟩)] w (zCl w (zDc ts)):=by
 have HF:=yA hfin;obtain⟨i0,hi0,hz0,hz1,hz2⟩:=info_parts zJI;have q1:b<w.heap.size:=yR w _ hv;have n1:(0:Int)<=n:=by omega
 have n2:(n:Int)<=61:=by omega
 clear hfin;go_enter Tryz.func79,Tryz.ntmps79
 go_upto_region 2 with((at_make;refine wpList_make_own _ rfl _ _ _ rfl 0 3 i0 _ 1 Tryz.underlying22 hi0 hz0 hz1 _ _ _ n (by rfl) (by rfl) rfl (by rw[hz2];omega) (by unfold maxLen;omega) (yF _) ?_;intro w1 hown hgr))
 have hv1:w1.cell? ⟨b,0,none⟩=some (.slice ad n cap):=hgr.cell hv (by simp);have hbl:Hid (Below w.heap.size w w1):=show Below _ _ _ from (Below.refl _ _).grown hgr (yT _) (by simp)
 have HO:=yA hown;clear hown hgr;go_wp2
 go_loopw [3,17] (λv i wr=>∃k:Nat,k<=n/\i=.int .i64 k/\v=.slice (some ⟨w.heap.size,0,none⟩) k n/\Hid (wr.ownsRow 0 3 1 (.slice (some ⟨w.heap.size,0,none⟩) k n) k ((ts.take k).map (Value.int .i64)))/\Hid (Below w.heap.size w wr)) (λ_ i _=>n-(intOf i).toNat)
 case atStart=>exact⟨0,yF _,rfl,rfl,HO.out,hbl⟩
 case round =>
  obtain⟨k,hk,rfl,rfl,hown,hb⟩:=hrel;clear HO hbl;by_cases hlt:k<n
  ·obtain⟨g,s,bk,d,e,h0,h1,h2,h3⟩:=hc k hlt
   subst e;have i1:(0:Int)<=k:=by omega
   have i2:(k:Int)<(n:Int):=by omega
   have q2:g<w.heap.size:=yR w _ h0;have q3:w.heap.size<=wr.heap.size:=hb.out.size;have q4:w.heap.size<wr.heap.size:=(hown.out.lt w.heap.size rfl).2;have c0:=(hb.out.cell (p:=⟨g,k*4,none⟩) q2).trans h0;have c1:=(hb.out.cell (p:=⟨g,k*4+1,none⟩) q2).trans h1;have c2:=(hb.out.cell (p:=⟨g,k*4+2,none⟩) q2).trans h2;have c3:=(hb.out.cell (p:=⟨g,k*4+3,none⟩) q2).trans h3;obtain⟨x,ex⟩:=eX (ts.getD k 0);rw[<-ex] at c3
   have et:Hid ((ts.take (k+1)).map (Value.int .i64)=(ts.take k).map (Value.int .i64)++[.int .i64 x]):=by
    show _=_
    rw[List.take_succ_eq_append_getElem (by omega),List.map_append,ex];simp[List.getD,show k<ts.length by omega]
   have q5:g<wr.heap.size:=by omega
   clear hc hv hv1 h0 h1 h2 h3 ex;go_wp2_with (at_builtin;refine wpList_append_fits _ (by rfl) _ _ 22 (by rfl) 0 3 i0 1 Tryz.underlying22 hi0 hz1 w.heap.size k n _ (by rfl) ((hown.out.alloc _).alloc _) ⟨wr.heap.size+1,0,none⟩ 1 1 [.int .i64 x] (by rfl) (by rfl) (World.news_of_block (cs:=#[.int .i64 x]) (t:=3) (fr:=(0,0)) (by exact zAH wr _ _)) (by simp[Value.oneCell']) (by omega) ?_;intro w2 hown2 hgr2;have hb2:Hid (Below w.heap.size w w2):=(by exact(((hb.out.alloc q3 _).alloc (by simp;omega) _).grown hgr2 (by simp;omega) (by intro k hk;cases hk;exact yT _)));have ho2:Hid (w2.ownsRow 0 3 1 (.slice (some ⟨w.heap.size,0,none⟩) (k+1) n) (k+1) ((ts.take (k+1)).map (Value.int .i64))):=(by rw[et.out];exact hown2);clear hown2 hgr2 et hown hb)
   go_roundw
   case rel=>exact⟨k+1,by omega,by go_num,rfl,ho2,hb2⟩
   case measure=>simp[intOf];omega
  ·have hkn:k=n:=by omega
   subst hkn
   have hx:Hid (wr.ownsRow 0 3 1 (.slice (some ⟨w.heap.size,0,none⟩) k k) k (ts.map (Value.int .i64))):=by
    have:=hown.out
    rw[vP (by omega)] at this;exact this
   clear hc hown hlt;go_wp2_with (go_at_call 129;refine(HF.out _ hx.out hb.out).mono ?_;rintro e w' ⟨v,rfl,h1,h2,h3⟩)
   go_ret
   exact⟨v,rfl,h1,h2,h3⟩
def zP4(L:List Nd):Prop:=∀x∈L.dropLast,0<=x.thread
theorem zE9(w:World)(b:Nat)(v:Value)(L:List Nd)(h:zQ w b v L)(hok:zHJ L)(hrow:zP4 L):
 Calls Tryz.prog 79 #[.pointer (some ⟨b,0,none⟩)] w (zCl w (zDc (L.map Nd.thread))):=by
 obtain⟨ad,cap,rfl⟩:∃ad cap,v=.slice ad L.length cap:=by
  exact J124 _
 refine zOE b L.length cap ad (L.map Nd.thread) w (by simp) h.cell0 hok.1 ?_ ?_
 ·intro k hk
  rcases h.shape with⟨_,e⟩|⟨g,cap',e,_⟩
  ·subst e;simp at hk
  ·simp at e
   obtain⟨rfl,rfl⟩:=e;have hx:L[k]?=some L[k]:=yL hk;have hg:=h.get hx;refine⟨g,_,_,_,rfl,hg.1,hg.2.1,hg.2.2.1,?_⟩
   rw[hg.2.2.2];simp[List.getD,hk]
 ·intro w1 hown hb
  have hml:L.length<=maxLen:=by have:=hok.1;unfold maxLen;omega
  rcases List.eq_nil_or_concat L with rfl|⟨L0,x,rfl⟩
  ·exact zEE w w1 0 [] rfl hown hb (λj hj=>by omega) (by unfold maxLen;omega)
  ·rw[vY] at *
   have hL0:∀j,j<L0.length->0<=(L0.map Nd.thread).getD j 0:=by
    intro j hj
    have:=hrow L0[j] (by simp)
    simpa [List.getD,hj] using this
   by_cases hx:0<=x.thread
   ·refine zEE w w1 _ _ (by simp) hown hb ?_ hml
    intro j hj
    rcases xR j L0.length with hlt|hge
    ·have:=hL0 j hlt
     simpa [List.getD,xL,hlt] using this
    ·have:j=L0.length:=by simp at hj;omega
     subst this;simpa using hx
   ·have el:(L0++[x]).length=L0.length+1:=by simp
    rw[el] at hown ⊢;rw[List.map_append] at hown ⊢;exact zG2 w w1 L0.length (L0.map Nd.thread) x.thread (by simp) hown hb hL0 (by omega) (by rw[<-el];exact hml)
