/- Layer N: texts joined. -/
import Derived.Test.YtoapgjjepiopbaaGreatDoorN40
set_option linter.all false
set_option maxHeartbeats 1000000
namespace Go.Proofs.YtoapgjjepiopbaaGreatDoor
open Go.RowKit
theorem J53 (P:Prop) (h:P:=by
 go_enter Tryz.func113,Tryz.ntmps113
 go_wp2
 refine bodyPost_ret (v:=.tuple #[.agg #[.int .u64 0, .int .u64 0, .int .u64 0, .int .i64 0], .bool false]) (by simp [results,Tryz.results113,go_sem]) rfl ⟨rfl,?_⟩
 exact (Below.refl _ _).alloc (Nat.le_refl _) _):P:=h
theorem zFJ (b n cap:Nat) (a:Option Addr) (w:World) (hv:w.cell? ⟨b,0,none⟩=some (.slice a n cap)) :
 Calls Tryz.prog 112 #[.pointer (some ⟨b,0,none⟩)] w fun e w'=>e=.returned (.int .i64 n) /\ w=w':=by
 go_enter Tryz.func112,Tryz.ntmps112
 go_wp2
 go_ret
 exact ⟨rfl,rfl⟩
theorem zB7 (w:World) (b:Nat) (v:Value) (L:List Nd) (h:zP w b v L) :
 Calls Tryz.prog 112 #[.pointer (some ⟨b,0,none⟩)] w fun e w'=>e=.returned (.int .i64 L.length) /\ w=w':=by
 rcases h.shape with ⟨rfl,rfl⟩ | ⟨g,cap,rfl,_⟩
 ·exact zFJ b 0 0 none w h.cell0
 ·exact zFJ b _ cap _ w h.cell0
theorem zHz (w:World) :
 Calls Tryz.prog 33 #[] w fun e w'=>e=.returned (.pointer (some ⟨w.heap.size,0,none⟩)) /\ w'=w.alloc (.cells #[.slice none 0 0] 164 (0,0)):=by
 go_enter Tryz.func33,Tryz.ntmps33
 go_wp2
 go_ret
 exact ⟨rfl,rfl⟩
theorem zP.fresh (w:World):zP (w.alloc (.cells #[.slice none 0 0] 164 (0,0))) w.heap.size (.slice none 0 0) [] :=
 ⟨heap_alloc_new w _,World.ownsRow_nil _ _ _ _,by simp [Value.ownBlock]⟩
section
variable (a:Option Addr) (b g n cap:Nat) (sl bk dn t at_:Int) (w:World)
theorem zDa (hv:w.cell? ⟨b,0,none⟩=some (.slice a n cap)) (h:at_ < 0 \/ n <= at_) :
 Calls Tryz.prog 113 #[.pointer (some ⟨b,0,none⟩), .int .i64 at_] w fun e w'=>e=.returned (.tuple #[.agg #[.int .u64 0, .int .u64 0, .int .u64 0, .int .i64 0], .bool false]) /\ Below w.heap.size w w':=by
 rcases h with h | h
 ·exact J53 _
 ·have h':¬ at_ < 0:=by omega
  have q1:b < w.heap.size:=World.block_lt_of_cell? w _ hv;exact J53 _
theorem zFd (i:Nat) (hi:i < n) (hn:n <= 61) (hv:w.cell? ⟨b,0,none⟩=some (.slice (some ⟨g,0,none⟩) n cap))
 (h0:w.cell? ⟨g,i*4,none⟩=some (.int .u64 sl)) (h1:w.cell? ⟨g,i*4+1,none⟩=some (.int .u64 bk)) (h2:w.cell? ⟨g,i*4+2,none⟩=some (.int .u64 dn)) (h3:w.cell? ⟨g,i*4+3,none⟩=some (.int .i64 t)) :
 Calls Tryz.prog 113 #[.pointer (some ⟨b,0,none⟩), .int .i64 i] w fun e w'=>e=.returned (.tuple #[.agg #[.int .u64 sl, .int .u64 bk, .int .u64 dn, .int .i64 t], .bool true]) /\ Below w.heap.size w w':=by
 have e1:¬ ((i:Int) < 0):=by omega
 have q1:b < w.heap.size:=World.block_lt_of_cell? w _ hv;have q2:g < w.heap.size:=World.block_lt_of_cell? w _ h0;go_enter Tryz.func113,Tryz.ntmps113
 go_wp2
 refine bodyPost_ret (v:=.tuple #[.agg #[.int .u64 sl, .int .u64 bk, .int .u64 dn, .int .i64 t], .bool true]) (by simp [results,Tryz.results113,go_sem]) rfl ⟨rfl,?_⟩
 exact (Below.refl _ _).alloc (Nat.le_refl _) _
theorem zFb (h:Calls Tryz.prog 163 #[.pointer (some ⟨b,0,none⟩)] w fun e w'=>e=.returned (.pointer none) /\ ∃ k,w'=w.drewN k) :
 Calls Tryz.prog 165 #[.pointer (some ⟨b,0,none⟩)] w fun e w'=>e=.returned (.bool false) /\ ∃ k,w'=w.drewN k:=by
 have H:=Lib.hid h;clear h;go_enter Tryz.func165,Tryz.ntmps165
 go_wp2_with (go_at_call 163;refine H.out.mono ?_;rintro e w' ⟨rfl,k,rfl⟩)
 go_ret
 exact ⟨rfl,_,rfl⟩
theorem zFC (p:Addr) (hcap:1 <= cap) (h:Calls Tryz.prog 163 #[.pointer (some ⟨b,0,none⟩)] w fun e w'=>e=.returned (.pointer (some p)) /\ ∃ k,w'=w.drewN k)
 (hv:w.cell? ⟨b,0,none⟩=some (.slice (some ⟨g,0,none⟩) 1 cap)) (hf:w.frozen? ⟨b,0,none⟩=false) :
 Calls Tryz.prog 165 #[.pointer (some ⟨b,0,none⟩)] w fun e w'=>e=.returned (.bool true) /\ ∃ k,w'=(w.drewN k).setCell ⟨b,0,none⟩ (.slice (some ⟨g,0,none⟩) 0 cap):=by
 have H:=Lib.hid h;clear h;go_enter Tryz.func165,Tryz.ntmps165
 go_wp2_with (go_at_call 163;refine H.out.mono ?_;rintro e w' ⟨rfl,k,rfl⟩)
 go_region
 go_wp2
 go_ret
 exact ⟨rfl,_,rfl⟩
theorem zP.shrink {w:World} {b g cap:Nat} {L:List Nd} (h:zP w b (.slice (some ⟨g,0,none⟩) L.length cap) L) (n:Nat) (hn:n <= L.length) :
 zP (w.setCell ⟨b,0,none⟩ (.slice (some ⟨g,0,none⟩) n cap)) b (.slice (some ⟨g,0,none⟩) (L.take n).length cap) (L.take n):=by
 have hl:(L.take n).length=n:=by rw [List.length_take];omega
 have hg:g ≠ b:=fun e=>h.apart (by rw [e];rfl)
 rw [hl];refine ⟨one_setCell h.blk,?_,h.apart⟩
 have ho:=ownsRow_setCell_other h.own (a:=⟨b,0,none⟩) h.apart (.slice (some ⟨g,0,none⟩) n cap);refine ⟨by rw [zG4], .inr ?_⟩
 rcases ho.2 with ⟨h',_⟩ | ⟨g',cap',cur,h',hb,hgg,hnc,hcm,hcs,htake⟩
 ·simp at h'
 ·simp only [Value.slice.injEq,Option.some.injEq,Addr.mk.injEq,and_true] at h'
  obtain ⟨rfl,_,rfl⟩:=h';refine ⟨g,cap,cur,by rw [hl],hb,hgg,by omega,hcm,hcs,?_⟩
  have:cur.toList.take ((L.take n).length*4)=(cur.toList.take (L.length*4)).take (n*4):=by
   rw [List.take_take,hl];congr 1;omega
  rw [this,htake];show (L.flatMap Nd.cells).take (n*4)=(L.take n).flatMap Nd.cells
  exact zH2 _ 4 zGk L n
def Nd.tried (x:Nd):Nd:=⟨zC0 x.sleep x.thread,x.back,zC0 x.done x.thread,-1⟩
theorem zJW (w:World) (b g cap k:Nat) (L0:List Nd) (x y:Nd) (o:Obj) (h:zP w b (.slice (some ⟨g,0,none⟩) (L0++[x,y]).length cap) (L0++[x,y])) :
 zAR w b (.slice (some ⟨g,0,none⟩) (L0++[x,y]).length cap) (.bool true) (L0++[x.tried]) (.returned (.bool true))
  (((((((w.drewN k).setCell ⟨b,0,none⟩ (.slice (some ⟨g,0,none⟩) (L0.length+1) cap)).alloc o).setCell ⟨g,L0.length*4,none⟩ (.int .u64 (zC0 x.sleep x.thread))).setCell ⟨g,L0.length*4+1,none⟩ (.int .u64 x.back)).setCell ⟨g,L0.length*4+2,none⟩ (.int .u64 (zC0 x.done x.thread))).setCell ⟨g,L0.length*4+3,none⟩ (.int .i64 (-1))).drew:=by
 have e0:(L0++[x,y]).take (L0.length+1)=L0++[x]:=by simp [List.take_append,List.take_of_length_le]
 have h1:=(h.drewN k).shrink (L0.length+1) (by simp);rw [e0] at h1;have h2:=h1.alloc o;have es:∀ z z':Nd,(L0++[z]).set L0.length z'=L0++[z']:=fun z z'=>by simp
 have h3:=h2.set (i:=L0.length) (j:=0) (by decide) (x:=x) (y:={ x with sleep:=zC0 x.sleep x.thread }) (by simp) (u:=.int .u64 (zC0 x.sleep x.thread)) rfl;rw [es] at h3;have h4:=h3.set (i:=L0.length) (j:=1) (by decide) (x:={ x with sleep:=zC0 x.sleep x.thread }) (y:={ x with sleep:=zC0 x.sleep x.thread }) (by simp) (u:=.int .u64 x.back) rfl;rw [es] at h4;have h5:=h4.set (i:=L0.length) (j:=2) (by decide) (x:={ x with sleep:=zC0 x.sleep x.thread }) (y:={ x with sleep:=zC0 x.sleep x.thread,done:=zC0 x.done x.thread }) (by simp) (u:=.int .u64 (zC0 x.done x.thread)) rfl;rw [es] at h5;have h6:=h5.set (i:=L0.length) (j:=3) (by decide) (x:={ x with sleep:=zC0 x.sleep x.thread,done:=zC0 x.done x.thread }) (y:=x.tried) (by simp) (u:=.int .i64 (-1)) rfl;rw [es] at h6;refine ⟨_,rfl,h6.drewN 1,?_,fun k hk=>.inl hk⟩
 exact ((((((((Keeps.refl _ _).drewN k).setCell (fun _=>.inl rfl) _).alloc _).setCell (fun _=>.inr rfl) _).setCell (fun _=>.inr rfl) _).setCell (fun _=>.inr rfl) _).setCell (fun _=>.inr rfl) _).drew
theorem zE6 (p:Addr) (hn:n <= 59) (hcap:n+2 <= cap) (hgb:g ≠ b) (h:Calls Tryz.prog 163 #[.pointer (some ⟨b,0,none⟩)] w fun e w'=>e=.returned (.pointer (some p)) /\ ∃ k,w'=w.drewN k)
 (hv:w.cell? ⟨b,0,none⟩=some (.slice (some ⟨g,0,none⟩) (n+2) cap)) (hf:w.frozen? ⟨b,0,none⟩=false)
 (h0:w.cell? ⟨g,n*4,none⟩=some (.int .u64 sl)) (h1:w.cell? ⟨g,n*4+1,none⟩=some (.int .u64 bk)) (h2:w.cell? ⟨g,n*4+2,none⟩=some (.int .u64 dn)) (h3:w.cell? ⟨g,n*4+3,none⟩=some (.int .i64 t))
 (hfg:∀ j,w.frozen? ⟨g,j,none⟩=false) (v:Value) (L':List Nd)
 (hR:∀ k,zAR w b v (.bool true) L' (.returned (.bool true)) (((((((w.drewN k).setCell ⟨b,0,none⟩ (.slice (some ⟨g,0,none⟩) (n+1) cap)).alloc (.cells #[.int .u64 sl, .int .u64 bk, .int .u64 dn, .int .i64 t] 211)).setCell ⟨g,n*4,none⟩ (.int .u64 (zC0 sl t))).setCell ⟨g,n*4+1,none⟩ (.int .u64 bk)).setCell ⟨g,n*4+2,none⟩ (.int .u64 (zC0 dn t))).setCell ⟨g,n*4+3,none⟩ (.int .i64 (-1))).drew) :
 Calls Tryz.prog 165 #[.pointer (some ⟨b,0,none⟩)] w (zAR w b v (.bool true) L'):=by
 have HR:=Lib.hid hR;clear hR;have H:=Lib.hid h;have e1:=zEw (n+1) (by omega);have e2:=zEw n (by omega);have q1:b < w.heap.size:=World.block_lt_of_cell? w _ hv;have q2:g < w.heap.size:=World.block_lt_of_cell? w _ h0;clear h;go_enter Tryz.func165,Tryz.ntmps165
 go_wp2_with (go_at_call 163;refine H.out.mono ?_;rintro e w' ⟨rfl,k,rfl⟩)
 go_region
 go_wp2
 obtain ⟨W,hW⟩:=eX (((w.drewN (k+1)).setCell ⟨b,0,none⟩ (.slice (some ⟨g,0,none⟩) (n+1) cap)).alloc (.cells #[.int .u64 sl, .int .u64 bk, .int .u64 dn, .int .i64 t] 211));rw [<- hW];have hv':W.cell? ⟨b,0,none⟩=some (.slice (some ⟨g,0,none⟩) (n+1) cap):=by rw [hW];go_simp
 have l0:W.cell? ⟨w.heap.size,0,none⟩=some (.int .u64 sl):=by rw [hW];go_simp
 have l1:W.cell? ⟨w.heap.size,1,none⟩=some (.int .u64 bk):=by rw [hW];go_simp
 have l2:W.cell? ⟨w.heap.size,2,none⟩=some (.int .u64 dn):=by rw [hW];go_simp
 have l3:W.cell? ⟨w.heap.size,3,none⟩=some (.int .i64 t):=by rw [hW];go_simp
 have g0:W.cell? ⟨g,n*4,none⟩=some (.int .u64 sl):=by rw [hW];go_simp
 have g1:W.cell? ⟨g,n*4+1,none⟩=some (.int .u64 bk):=by rw [hW];go_simp
 have g2:W.cell? ⟨g,n*4+2,none⟩=some (.int .u64 dn):=by rw [hW];go_simp
 have g3:W.cell? ⟨g,n*4+3,none⟩=some (.int .i64 t):=by rw [hW];go_simp
 have f0:W.frozen? ⟨g,n*4,none⟩=false:=by rw [hW];go_simp
 have f1:W.frozen? ⟨g,n*4+1,none⟩=false:=by rw [hW];go_simp
 have f2:W.frozen? ⟨g,n*4+2,none⟩=false:=by rw [hW];go_simp
 have f3:W.frozen? ⟨g,n*4+3,none⟩=false:=by rw [hW];go_simp
 have HW:=Lib.hid hW;have q3:w.heap.size ≠ g:=by omega
 have q4:g ≠ w.heap.size:=by omega
 clear hW h0 h1 h2 h3 hfg hv hf q1 q2;have e3:(0:Int) <= n:=by omega
 have e4:(n:Int) < (n:Int)+1:=by omega
 have e5:(n:Int)+1 - 1=n:=by omega
 go_region_held3 (fun w'=>w'.cell? ⟨b,0,none⟩=some (.slice (some ⟨g,0,none⟩) (n+1) cap) /\ w'.cell? ⟨w.heap.size,0,none⟩=some (.int .u64 sl) /\ w'.cell? ⟨w.heap.size,1,none⟩=some (.int .u64 bk) /\ w'.cell? ⟨w.heap.size,2,none⟩=some (.int .u64 dn) /\ w'.cell? ⟨w.heap.size,3,none⟩=some (.int .i64 t)) (go_keep)
  (first | (go_at_call 173;refine (zIk _ _ _).mono ?_;rintro e w' ⟨rfl,rfl⟩))
 go_wp2
 go_ret
 rw [HW.out];exact HR.out (k+1)
end
def zCO (L:List Nd):Bool × List Nd :=
 if zBX L then (true,match L.dropLast.getLast? with | none=>[] | some x=>L.dropLast.dropLast++[x.tried]) else (false,L)
theorem zE4 {w:World} {b:Nat} {v:Value} {L:List Nd} (h:zP w b v L) (r:Value) (k:Nat):zAR w b v r L (.returned r) (w.drewN k) :=
 ⟨v,rfl,h.drewN k,(Keeps.refl _ _).drewN k,fun k hk=>.inl hk⟩
theorem zIo (w:World) (b:Nat) (v:Value) (L:List Nd) (h:zP w b v L) (hok:zFP L) :
 (zBX L=false -> Calls Tryz.prog 163 #[.pointer (some ⟨b,0,none⟩)] w fun e w'=>e=.returned (.pointer none) /\ ∃ k,w'=w.drewN k) ∧
 (zBX L=true -> ∃ g cap,v=.slice (some ⟨g,0,none⟩) L.length cap /\ Calls Tryz.prog 163 #[.pointer (some ⟨b,0,none⟩)] w fun e w'=>e=.returned (.pointer (some ⟨g,(L.length - 1)*4,none⟩)) /\ ∃ k,w'=w.drewN k):=by
 cases hx:L.getLast? with
 | none =>
   have e:L=[]:=List.getLast?_eq_none_iff.1 hx;subst e;refine ⟨fun _=>?_,fun h'=>by simp [zBX] at h'⟩
   rcases h.shape with ⟨rfl,_⟩ | ⟨g,cap,rfl,_⟩
   ·exact zBW none b 0 w h.cell0
   ·exact zBW _ b cap w h.cell0
 | some x =>
   obtain ⟨L0,rfl⟩:=zHf hx;have hlen:(L0++[x]).length=L0.length+1:=by simp
   have hl60:L0.length <= 60:=by have:=hok.1;omega
   rcases h.shape with ⟨_,e⟩ | ⟨g,cap,rfl,hg,hn,hm⟩
   ·simp at e
   have hget:=h.get (i:=L0.length) (x:=x) (by simp);refine ⟨fun ht=>?_,fun ht=>⟨g,cap,rfl,?_⟩⟩
   ·simp only [zBX,hx,decide_eq_false_iff_not] at ht
    exact zDZ b g L0.length cap _ w hl60 (by omega) (J203 _) hget.2.2.2
   ·simp only [zBX,hx,decide_eq_true_eq] at ht
    rw [show (L0++[x]).length - 1=L0.length by simp];exact zEO b g L0.length cap _ w hl60 ht (J203 _) hget.2.2.2
theorem zF0 (w:World) (b:Nat) (v:Value) (L:List Nd) (h:zP w b v L) (hok:zFP L) :
 Calls Tryz.prog 165 #[.pointer (some ⟨b,0,none⟩)] w (zAR w b v (.bool (zCO L).1) (zCO L).2):=by
 obtain ⟨t1,t2⟩:=zIo w b v L h hok;cases ht:zBX L with
 | false =>
   rw [show zCO L=(false,L) by simp [zCO,ht]];refine (zFb b w (t1 ht)).mono ?_
   rintro e w' ⟨rfl,k,rfl⟩
   exact zE4 h _ k
 | true =>
   obtain ⟨g,cap,rfl,hc⟩:=t2 ht
   have hcap:L.length <= cap:=by
    rcases h.shape with ⟨e,_⟩ | ⟨g',cap',e,_,h1,_⟩
    ·simp at e
    ·simp at e;omega
   rcases List.eq_nil_or_concat L with rfl | ⟨L1,y,rfl⟩
   ·simp [zBX] at ht
   rw [List.concat_eq_append] at *;rcases List.eq_nil_or_concat L1 with rfl | ⟨L0,x,rfl⟩
   ·rw [show zCO ([]++[y])=(true,[]) by unfold zCO;rw [if_pos ht];rfl]
    refine (zFC b g cap w _ (by simpa using hcap) hc h.cell0 h.zLj).mono ?_
    rintro e w' ⟨rfl,k,rfl⟩
    have h1:=(h.drewN k).shrink 0 (by simp);exact ⟨_,rfl,h1,((Keeps.refl _ _).drewN k).setCell (fun _=>.inl rfl) _,fun k hk=>.inl hk⟩
   ·rw [List.concat_eq_append,List.append_assoc] at *
    have hlen:(L0++([x]++[y])).length=L0.length+2:=by simp
    rw [show zCO (L0++([x]++[y]))=(true,L0++[x.tried]) by
     unfold zCO;rw [if_pos ht,<- List.append_assoc,List.dropLast_concat,List.getLast?_concat,List.dropLast_concat]]
    have hget:=h.get (i:=L0.length) (x:=x) (by simp);have hg:g ≠ b:=fun e=>h.apart (by rw [e];rfl)
    refine zE6 b g L0.length cap x.sleep x.back x.done x.thread w _ (by have:=hok.1;omega) (by omega) hg hc (J203 _) h.zLj hget.1 hget.2.1 hget.2.2.1 hget.2.2.2 (fun j=>h.free j) _ _ ?_
    intro k
    exact zJW w b g cap k L0 x y _ h
def zEZ (a e:Int):Nd:=⟨a % 256,zC0 0 (zAI (bits .andNot .u64 e (a % 256))),0,-1⟩
def zDb (L:List Nd) (a e:Int):Bool × List Nd:=if L.length=61 \/ zBX L=true then (false,L) else (true,L++[zEZ a e])
theorem zLq:(Tryz.prog.info? 211).map (fun i=>(i.zero,i.size,i.bytes))=some (some (.agg #[.int .u64 0, .int .u64 0, .int .u64 0, .int .i64 0]),4,32):=by kernel_rfl
theorem zKJ (w W w1:World) (b:Nat) (v:Value) (L:List Nd) (x:Nd) (g cap k:Nat) (h:zP w b v L) (hW:Keeps zA w W)
 (hown:w1.ownsRow 0 211 4 (.slice (some ⟨g,0,none⟩) (L.length+1) cap) (L.length+1) (zBq L++x.cells)) (hg:W.grownBy w1 v.ownBlock) (hat:v.ownBlock=some g \/ g=W.heap.size) :
 zAR w b v (.bool true) (L++[x]) (.returned (.bool true)) ((w1.setCell ⟨b,0,none⟩ (.slice (some ⟨g,0,none⟩) (L.length+1) cap)).drewN k):=by
 have hb:=lt_of_block h.blk;have hbW:W.heap.size ≥ w.heap.size:=hW.size
 have hgb:g ≠ b:=by
  rcases hat with e | e
  ·exact fun e'=>h.apart (by rw [e,e'])
  ·omega
 have hblk:w1.heap[b]?=some (.cells #[v] 164 (0,0)):=by
  rw [hg.block b (by omega) (fun e=>h.apart e.symm)];exact hW.heap (fun h=>h) h.blk
 have hlen:(L++[x]).length=L.length+1:=by simp
 refine ⟨.slice (some ⟨g,0,none⟩) (L.length+1) cap,rfl,⟨one_setCell hblk,?_,by simp [Value.ownBlock,hgb]⟩,?_,?_⟩
 ·have:=ownsRow_setCell_other hown (a:=⟨b,0,none⟩) (by simp [Value.ownBlock,hgb]) (.slice (some ⟨g,0,none⟩) (L.length+1) cap)
  rw [hlen];rw [show zBq (L++[x])=zBq L++x.cells by simp [zBq]];exact this
 ·exact (((hW.mono (fun _ _ h=>h.elim)).grown hg (fun k e _=>.inr e)).setCell (fun _=>.inl rfl) _).drewN _
 ·intro k e
  simp [Value.ownBlock] at e
  subst e;rcases hat with e | e
  ·exact .inl e
  ·exact .inr (by omega)
section
variable (b n:Nat) (v:Value) (xs:List Value) (a e:Int) (w:World)
theorem zFp (cap:Nat) (ad:Option Addr) (hv:w.cell? ⟨b,0,none⟩=some (.slice ad 61 cap)) :
 Calls Tryz.prog 122 #[.pointer (some ⟨b,0,none⟩), .int .u64 a, .int .u64 e] w fun r w'=>r=.returned (.bool false) /\ ∃ k,w'=w.drewN k:=by
 go_enter Tryz.func122,Tryz.ntmps122
 go_wp2
 go_ret
 exact ⟨rfl,0,rfl⟩
theorem zFt (cap:Nat) (ad:Option Addr) (p:Addr) (hn:n < 61) (hv:w.cell? ⟨b,0,none⟩=some (.slice ad n cap))
 (h:Calls Tryz.prog 163 #[.pointer (some ⟨b,0,none⟩)] w fun e w'=>e=.returned (.pointer (some p)) /\ ∃ k,w'=w.drewN k) :
 Calls Tryz.prog 122 #[.pointer (some ⟨b,0,none⟩), .int .u64 a, .int .u64 e] w fun r w'=>r=.returned (.bool false) /\ ∃ k,w'=w.drewN k:=by
 have H:=Lib.hid h;have e1:((n:Int)==61)=false:=J154 _;clear h;go_enter Tryz.func122,Tryz.ntmps122
 go_wp2_with (go_at_call 163;refine H.out.mono ?_;rintro e w' ⟨rfl,k,rfl⟩)
 go_ret
 exact ⟨rfl,_,rfl⟩
theorem zFq (cap:Nat) (ad:Option Addr) (hn:n < 61) (hv:w.cell? ⟨b,0,none⟩=some (.slice ad n cap)) (hf:w.frozen? ⟨b,0,none⟩=false)
 (hne:(Value.slice ad n cap).ownBlock ≠ some b) (hown:w.ownsRow 0 211 4 (.slice ad n cap) n xs)
 (ha:0 <= a /\ a < 18446744073709551616) (he:0 <= e /\ e < 18446744073709551616) (hT:zAV w)
 (h:Calls Tryz.prog 163 #[.pointer (some ⟨b,0,none⟩)] w fun e w'=>e=.returned (.pointer none) /\ ∃ k,w'=w.drewN k) (L':List Nd)
 (hR:∀ W w1 g cap' k,Keeps zA w W -> w1.ownsRow 0 211 4 (.slice (some ⟨g,0,none⟩) (n+1) cap') (n+1) (xs++(zEZ a e).cells) -> W.grownBy w1 (Value.slice ad n cap).ownBlock -> ((Value.slice ad n cap).ownBlock=some g \/ g=W.heap.size) →
   zAR w b (.slice ad n cap) (.bool true) L' (.returned (.bool true)) ((w1.setCell ⟨b,0,none⟩ (.slice (some ⟨g,0,none⟩) (n+1) cap')).drewN k)) :
 Calls Tryz.prog 122 #[.pointer (some ⟨b,0,none⟩), .int .u64 a, .int .u64 e] w (zAR w b (.slice ad n cap) (.bool true) L'):=by
 have H:=Lib.hid h;have HR:=Lib.hid hR;have HT:=Lib.hid hT;have HO:=Lib.hid hown;have e1:((n:Int)==61)=false:=J154 _;have e2:=zH6 a ha;have hbd:=zEa e (a % 256) he (by omega);have q1:b < w.heap.size:=World.block_lt_of_cell? w _ hv;have q2:b ≠ w.heap.size:=by omega
 have q3:w.heap.size ≠ b:=by omega
 clear h hR hT hown;go_enter Tryz.func122,Tryz.ntmps122
 go_wp2_with (go_at_call 163;refine H.out.mono ?_;rintro e W ⟨rfl,k,hk⟩;have hv1:W.cell? ⟨b,0,none⟩=some (.slice ad n cap):=(by rw [hk];exact hv);have hf1:W.frozen? ⟨b,0,none⟩=false:=(by rw [hk];exact hf);have q1:b < W.heap.size:=(by rw [hk];exact q1);have q2:b ≠ W.heap.size:=(by omega);have q3:W.heap.size ≠ b:=(by omega);have HT1:Hid (zAV W):=(by rw [hk];exact HT.out);have HO1:Hid (W.ownsRow 0 211 4 (.slice ad n cap) n xs):=(by rw [hk];exact HO.out);have Hk:Hid (Keeps zA w W):=(by rw [hk];exact (Keeps.refl _ _).drewN _);clear hk hv hf)
 have HT2:∀ o:Obj,zAV (W.alloc o).drew:=fun o j hj=>by
  have h1:=HT1.out j hj;rw [<- h1];exact World.cell?_of_block (Below.heap_alloc _ _ _ (World.block_lt_of_cell? W _ h1))
 have HT3:=Lib.hid HT2;clear HT2;go_region_with (first | (go_at_call 173;refine (zIk _ _ _).mono ?_;rintro e w' ⟨rfl,rfl⟩) | (go_at_call 164;refine (zGD _ _ (by omega) (by exact HT3.out _)).mono ?_;rintro e w' ⟨rfl,rfl⟩))
 all_goals (
  go_wp2_with fail
  obtain ⟨i0,hi0,hz0,hz1,hz2⟩:=info_parts zLq;go_region_law ((refine step_append_lies _ (by rfl) _ _ _ (by rfl) 0 211 i0 _ 4 32 Tryz.underlying162 hi0 hz0 hz1 hz2 rfl (by decide) (.slice ad n cap) n xs (by rfl) (by exact zF HO1.out (S:=zA) (by repeat (first | exact Keeps.refl _ _ | apply Keeps.drew | apply Keeps.alloc)) (fun _ _ h=>h)) ⟨W.heap.size+1,0,none⟩ 1 1 (zEZ a e).cells (by rfl) (by rfl) (World.news_of_block (cs:=(zEZ a e).cells.toArray) (t:=211) (fr:=(0,0)) (by exact zW W _ _)) (by simp [Value.oneCell',zEZ,Nd.cells]) (by omega) (by unfold maxLen;omega) (by omega) (by simp) (W.heap.size+2) (by simp) ?_;intro gg cap' w1 hown1 hgrow hat hlt;have hv2:w1.cell? ⟨b,0,none⟩=some (.slice ad n cap):=(hgrow.cell (by go_simp) (Ne.symm hne));have hf2:w1.frozen? ⟨b,0,none⟩=false:=(by rw [hgrow.frozen_far _ (by simp;omega) (Ne.symm hne)];go_simp)))
  all_goals (
   go_wp2
   go_ret
   exact HR.out _ w1 gg cap' 0 (by repeat (first | exact Hk.out | apply Keeps.drew | apply Keeps.alloc)) hown1 hgrow (by exact hat.imp_right (fun h=>(by simpa using h)))))
theorem zHV (w:World) (b:Nat) (v:Value) (L:List Nd) (a e:Int) (h:zP w b v L) (hok:zFP L) (hT:zAV w)
 (ha:0 <= a /\ a < 18446744073709551616) (he:0 <= e /\ e < 18446744073709551616) :
 Calls Tryz.prog 122 #[.pointer (some ⟨b,0,none⟩), .int .u64 a, .int .u64 e] w (zAR w b v (.bool (zDb L a e).1) (zDb L a e).2):=by
 obtain ⟨t1,t2⟩:=zIo w b v L h hok
 obtain ⟨ad,n,cap,rfl,hn⟩:∃ ad n cap,v=.slice ad n cap /\ n=L.length:=by
  rcases h.shape with ⟨rfl,rfl⟩ | ⟨g,cap,rfl,_⟩
  ·exact ⟨_,_,_,rfl,rfl⟩
  ·exact ⟨_,_,_,rfl,rfl⟩
 subst hn;by_cases h61:L.length=61
 ·rw [show zDb L a e=(false,L) by simp [zDb,h61]]
  have hv:=h.cell0;rw [h61] at hv;refine (zFp b a e w cap ad hv).mono ?_
  rintro r w' ⟨rfl,k,rfl⟩
  exact zE4 h _ k
 ·have hlt:L.length < 61:=by have:=hok.1;omega
  cases ht:zBX L with
  | true =>
    rw [show zDb L a e=(false,L) by simp [zDb,ht]];obtain ⟨g,cap',_,hc⟩:=t2 ht;refine (zFt b L.length a e w cap ad _ hlt h.cell0 hc).mono ?_
    rintro r w' ⟨rfl,k,rfl⟩
    exact zE4 h _ k
  | false =>
    rw [show zDb L a e=(true,L++[zEZ a e]) by simp [zDb,ht,h61]];exact zFq b L.length (zBq L) a e w cap ad hlt h.cell0 h.zLj h.apart h.own ha he hT (t1 ht) _ (fun W w1 g cap' k hk ho hg hat=>zKJ w W w1 b _ L _ g cap' k h hk ho hg hat)
end
end Go.Proofs.YtoapgjjepiopbaaGreatDoor
