/- Layer D: texts joined. -/
import Derived.Test.YtoapgjjepiopbaaGreatDoorD35
set_option linter.all false
set_option maxHeartbeats 8000000
set_option maxRecDepth 8000
namespace Go.Proofs.YtoapgjjepiopbaaGreatDoor
open Go.RowKit
theorem zQL:(Tryz.prog.info? 132).map (λi=>(i.zero,i.size,i.bytes))=some (some (.agg #[(0:Int),.slice none 0 0,.slice none 0 0]),3,56):=by kernel_rfl
theorem zQa:(Tryz.prog.info? 48).map (λi=>(i.zero,i.size,i.bytes))=some (some (.agg #[(0:Int),.slice none 0 0]),2,32):=by kernel_rfl
def zDj:HTh:=⟨0,.slice none 0 0,.slice none 0 0⟩
theorem zQG(n:Nat):(madeCells (Value.agg #[(0:Int),.slice none 0 0,.slice none 0 0]).cells (n*3)).toList=zAR (List.replicate n zDj):=by
 apply List.ext_getElem?
 intro k
 have hz:(Value.agg #[(0:Int),.slice none 0 0,.slice none 0 0]).cells=#[.int .i64 0,.slice none 0 0,.slice none 0 0]:=rfl;rw[hz];by_cases hk:k<n*3
 ·obtain⟨i,j,hj,rfl⟩:∃i j,j<3/\k=i*3+j:=⟨k / 3,k % 3,Nat.mod_lt _ (by decide),by omega⟩
  have e:(zAR (List.replicate n zDj))[i*3+j]?=_:=zCh HTh.cells 3 zDx (List.replicate n zDj) i j hj;have hi:i<n:=by omega
  rw[e];simp only[madeCells,Array.toList_map,Array.toList_range,List.getElem?_map,List.getElem?_range hk,vM,vJ,hi,if_true,yO];have hm:(i*3+j) % 3=j:=by omega
  rcases (show j=0\/j=1\/j=2 by omega) with rfl|rfl|rfl <;> simp[hm,zDj,HTh.cells]
 ·rw[List.getElem?_eq_none (by simp[madeCells];omega),List.getElem?_eq_none]
  unfold zAR;rw[zAI _ 3 zDx];simp
  omega
theorem zAw.src{w:World}{F:Nat->Prop}{cs:List Int}{ad:Option Addr}{cap:Nat}(h:zAw w F cs ad):zl w (.slice ad cs.length cap) cs.length (ints cs):=by
 refine⟨ad,cap,rfl,λhn=>?_⟩
 obtain⟨g,o,e,hg,hc⟩:=h 0 (by omega);refine⟨g,o,e,λj v hj=>?_⟩
 have hjl:j<cs.length:=by have:=(yP.1 hj).1;rwa [zAf] at this
 obtain⟨g2,o2,e2,_,hc2⟩:=h j hjl;rw[e] at e2;cases e2;rw[zAB cs j hjl] at hj;cases hj;have:cs.getD j 0=cs[j]:=by simp[List.getD,hjl]
 rw[this];exact hc2
def zJH(u:Un):zy:=⟨u.cells,List.replicate u.mutexes.toNat (-1),u.threads.map λ_=>⟨1,[],[]⟩⟩
theorem zMz{u:Un}:(zJH u).ok u:=by
 refine⟨rfl,by simp[zJH],by simp[zJH],λo ho=>?_,λi t b e1 e2=>?_⟩
 ·obtain⟨_,rfl⟩:=kY.1 ho
  exact Int.le_refl _
 ·have e1:(u.threads.map λ_=>(⟨1,[],[]⟩:WTh))[i]?=some t:=e1
  exact J101 _
theorem zOZ{α:Type}(a b:α)(n i:Nat)(h:i<n):(List.replicate i a++List.replicate (n-i) b).set i a=List.replicate (i+1) a++List.replicate (n-(i+1)) b:=by
 obtain⟨k,hk⟩:∃k,n-i=k+1:=⟨n-i-1,by omega⟩
 have e2:n-(i+1)=k:=by omega
 rw[hk,e2,vX _ _ (by simp),uF,Nat.sub_self,List.replicate_succ,yM,kF,vI];rfl
theorem zPh{α:Type}(a b:α)(n i:Nat)(h:i<n):(List.replicate i a++List.replicate (n-i) b)[i]?=some b:=by
 rw[xI (by simp),uF,Nat.sub_self,vJ,if_pos (by omega)]
def zGV(w W:World)(n:Nat)(cs:List Int)(v:Value):Prop:=∃ad cap,v=.slice ad n cap/\W.ownsRow 0 3 1 (.slice ad n cap) n (ints cs)/\∀g,(Value.slice ad n cap).ownBlock=some g->w.heap.size<=g
def zGr(w W:World)(n:Nat)(v:Value):Prop:=∃g,v=.slice (some ⟨g,0,none⟩) n n/\W.ownsRow 0 132 3 (.slice (some ⟨g,0,none⟩) n n) n (zAR (List.replicate n zDj))/\w.heap.size<=g
theorem zGV.keeps{w W W':World}{n:Nat}{cs:List Int}{v:Value}(h:zGV w W n cs v)(hk:Keeps zA W W'):zGV w W' n cs v:=by
 obtain⟨ad,cap,e,h1,h2⟩:=h;exact⟨ad,cap,e,zD h1 hk (λ_ _ h=>h),h2⟩
theorem zGr.keeps{w W W':World}{n:Nat}{v:Value}(h:zGr w W n v)(hk:Keeps zA W W'):zGr w W' n v:=by
 exact J90 _
theorem zE4{w:World}{e e':TypeId}{s s' n n':Nat}{v v':Value}{xs xs':List Value}(h:w.ownsRow 0 e s v n xs)(h':w.ownsRow 0 e' s' v' n' xs')(hne:e≠e'){g:Nat}(hg:v.ownBlock=some g):v'.ownBlock≠some g:=by
 intro hg'
 rcases h.2 with⟨e1,_⟩|⟨g1,c1,cur1,e1,_,b1,_⟩
 ·rw[e1] at hg;cases hg
 ·rcases h'.2 with⟨e2,_⟩|⟨g2,c2,cur2,e2,_,b2,_⟩
  ·rw[e2] at hg';cases hg'
  ·rw[e1] at hg;rw[e2] at hg'
   have q1:g1=g:=by simpa [Value.ownBlock] using hg
   have q2:g2=g:=by simpa [Value.ownBlock] using hg'
   rw[q1] at b1;rw[q2] at b2;rw[b1] at b2;simp only[yN,Obj.cells.injEq] at b2;exact hne b2.2.1
section
variable {cs:List Int} {mu:Int} {bs:List Bd} {w:World} {F:Nat->Prop} {uca uta:Option Addr} {ucc utc:Nat}
theorem zQt{T:zZ}{id:Nat}(hcs:zAw w F cs uca)(hbd:zBy w F bs uta)(hT:∀k x,T k=some x->k<w.heap.size)(hid:∀k t,T k≠some (id,t))(hsz:zAj bs<900000000)(hr:zX ⟨cs,mu,bs⟩=true)
 (HW:Hid (∀W,Keeps zA w W->Calls Tryz.prog 6 #[.agg #[.slice uca cs.length ucc,mu,.slice uta bs.length utc]] W λe w'=>e=.returned (.int .i64 0)/\Keeps zA W w')):
 Calls Tryz.prog 25 #[.agg #[.slice uca cs.length ucc,mu,.slice uta bs.length utc]] w λe w'=>∃b T' F' p H,e=.returned (.tuple #[.pointer (some ⟨b,0,none⟩),(0:Int)])/\MaP zm 1 148 zBk w' T' F' id b ⟨cs,mu,bs⟩ p (zBr ⟨cs,mu,bs⟩) H/\zAT T T' id w/\Keeps zA w w'/\(∀k,F' k->w.heap.size<=k):=by
 obtain⟨a1,a2,a3,a4,a5,a6⟩:=zBT hr;have HIN:Hid (zAw w F cs uca/\zBy w F bs uta/\(∀k x,T k=some x->k<w.heap.size)/\(∀k t,T k≠some (id,t))/\zAj bs<900000000/\zX ⟨cs,mu,bs⟩=true):=⟨hcs,hbd,hT,hid,hsz,hr⟩;have b2:bs.length<=8:=a2;have b1':1<=bs.length:=a1;have b3:cs.length<=8:=a3;have b4:0<=mu:=a4;have b5:mu<=8:=a5;have HLB:Hid (1<=bs.length/\bs.length<=8/\cs.length<=8/\0<=mu/\mu<=8):=⟨b1',b2,b3,b4,b5⟩;have HCL:Hid (∀W,Keeps zA w W->Calls Tryz.prog 59 #[.slice uca cs.length ucc] W (zBb 3 1 W cs.length (ints cs))):=λW hk=>zBl W _ cs ((hcs.keeps hk (λ_ _ h=>h)).src) (by omega)
 obtain⟨kT,hkT,tz0,tz1,tz2⟩:=info_parts zQL;obtain⟨kB,hkB,bz0,bz1,bz2⟩:=info_parts zQa;obtain⟨kI,hkI,iz0,iz1,iz2⟩:=info_parts zBI;clear hcs hbd hT hid hsz hr a1 a2 a3 a4 a5 a6;obtain⟨Q,hQ⟩:=eX (α:=Ending->World->Prop) (λe w'=>∃b T' F' p H,e=.returned (.tuple #[.pointer (some ⟨b,0,none⟩),(0:Int)])/\MaP zm 1 148 zBk w' T' F' id b ⟨cs,mu,bs⟩ p (zBr ⟨cs,mu,bs⟩) H/\zAT T T' id w/\Keeps zA w w'/\(∀k,F' k->w.heap.size<=k));rw[<-hQ];have HQ:=yA hQ;clear hQ;go_enter Tryz.func25,Tryz.ntmps25
 go_upto_region 1 with fail
 obtain⟨b1,w1,e1,e2,R1,K1,_⟩:=newRow w [.slice uca cs.length ucc,mu,.slice uta bs.length utc] 25;rw[e1,e2];have y1:=R1.zA7;have k1:=zF w1;have HK1:=yA K1;have HB10:Hid (b1<w1.heap.size):=R1.lt (by simp);clear e1 e2 R1 K1;go_upto_region 4 with(go_at_call 6;refine(HW.out _ HK1.out).mono ?_;rintro e w2 ⟨rfl,k2⟩;have HK2:=yA (HK1.out.zC k2))
 have HBK:Hid (b1<w2.heap.size):=yH HB10.out k2.size;obtain⟨nc,hnc⟩:=eX cs.length;obtain⟨nb,hnb⟩:=eX bs.length;have HNN:Hid (nc=cs.length/\nb=bs.length):=⟨hnc,hnb⟩;rw[<-hnc] at HCL;rw[<-hnc,<-hnb] at y1;rw[<-hnc,<-hnb];rw[<-hnb] at b2 b1';clear hnc hnb HW
 refine zBG 9 (by kernel_rfl) [some (.pointer (some ⟨b1,0,none⟩)),some (.slice uca nc ucc),none,some (.pointer (some ⟨b1,2,none⟩)),some (.slice uta nb utc),some (.int .i64 (nb:Int)),none,none,none] rfl (λj v W=>if j=2 then zGV w2 W nc cs v else if j=6 then zGr w2 W nb v else if j=7 then (∃v2 v6,v=.agg #[.slice none 0 0,(0:Int),.slice none 0 0,v2,.slice none 0 0,v6]/\zGV w2 W nc cs v2/\zGr w2 W nb v6) else ∃bm v2 v6,v=.pointer (some ⟨bm,0,none⟩)/\zB W bm [.slice none 0 0,(0:Int),.slice none 0 0,v2,.slice none 0 0,v6]/\zGV w2 W nc cs v2/\zGr w2 W nb v6/\w2.heap.size<=bm/\v2.ownBlock≠some bm/\v6.ownBlock≠some bm) (λj v W W' h hk=>by
  revert h
  split
  ·exact λh=>h.keeps hk
  ·split
   ·exact λh=>h.keeps hk
   ·split
    ·rintro⟨v2,v6,e,h1,h2⟩;exact⟨v2,v6,e,h1.keeps hk,h2.keeps hk⟩
    ·rintro⟨bm,v2,v6,e,h0,h1,h2,h3⟩;exact⟨bm,v2,v6,e,h0.keeps hk (λh=>h),h1.keeps hk,h2.keeps hk,h3⟩) ?_ ?_
 ·refine⟨?_,?_,?_,?_,?_,?_,?_,?_,?_,trivial⟩ <;> (intro vs gs W Q' hR hd hK;have HRW:Keeps zA w2 W:=((zF w2).drew).zC hR;have kW:=k2.zC HRW;simp only[zBK,zAt,zBo,zJ,tz,Option.bind,Act.put] at hd hK ⊢;try simp only[hd] at hK ⊢)
  all_goals try(try clear hd;go_wp2_with (fail);first|exact hK _ _ (yB _ _) rfl)
  ·clear hd
   have HW2:Hid (w2.heap.size<=W.heap.size):=HRW.size;go_wp2_with (go_at_call 59;refine(HCL.out W (HK2.out.zC HRW)).mono ?_;rintro e W1 ⟨ad,cp,rfl,o1,g1,l1⟩;have HO1:=yA o1;have HG1:=yA l1;clear o1 l1)
   exact hK _ _ g1 (by show zGV _ _ _ _ _;exact⟨ad,cp,rfl,HO1.out,λg hg=>yX HW2.out (HG1.out g hg)⟩)
  ·clear hd
   refine wpList_make_full _ rfl _ _ _ rfl 0 132 kT _ 3 Tryz.underlying126 hkT tz0 tz1 _ _ _ _ nb (by rfl) (by rfl) rfl rfl (by rw[tz2];omega) (by unfold maxLen;omega) (yF _) ?_
   intro w9 hown hgr
   rw[zQG] at hown;exact hK _ _ ((yB _ _).grown hgr (λk e=>by cases e)) (by show zGr _ _ _ _;exact⟨_,rfl,hown,HRW.size⟩)
  ·obtain⟨⟨ad,cp,e2,o2⟩,⟨g6,e6,o6⟩,-⟩:zGV w2 W nc cs (vs 2)/\zGr w2 W nb (vs 6)/\True:=by simpa using hd
   rw[e2,e6] at hK ⊢;have O2:=yA o2;have O6:=yA o6;clear hd e2 e6 o2 o6;go_wp2_with fail
   exact hK _ _ (yB _ _) (by show ∃v2 v6,_;exact⟨_,_,rfl,⟨ad,cp,rfl,O2.out⟩,g6,rfl,O6.out⟩)
  ·obtain⟨v2,v6,e7,⟨ad,cp,rfl,o2,l2⟩,g6,rfl,o6,l6⟩:=(hd.1:∃v2 v6,vs 7=.agg #[.slice none 0 0,(0:Int),.slice none 0 0,v2,.slice none 0 0,v6]/\zGV w2 W nc cs v2/\zGr w2 W nb v6)
   rw[e7] at hK ⊢;have O2:=yA o2;have O6:=yA o6;have HLL:Hid (w2.heap.size<=W.heap.size/\(∀g,(Value.slice ad nc cp).ownBlock=some g->w2.heap.size<=g)/\w2.heap.size<=g6):=⟨HRW.size,l2,l6⟩;clear hd e7 o2 o6 l2 l6;go_wp2_with fail
   have hk:=(yB zA W).alloc (.cells #[.slice none 0 0,(0:Int),.slice none 0 0,.slice ad nc cp,.slice none 0 0,.slice (some ⟨g6,0,none⟩) nb nb] 128);exact hK _ _ hk (by show ∃bm v2 v6,_;exact⟨_,_,_,rfl,yK (yG W _),zGV.keeps ⟨ad,cp,rfl,O2.out,HLL.out.2.1⟩ hk,zGr.keeps ⟨g6,rfl,O6.out,HLL.out.2.2⟩ hk,HLL.out.1,λe=>by have:=zM O2.out e;omega,λe=>by have:=zM O6.out e;omega⟩)
 ·intro vs W hR hFF
  have HRW:Keeps zA w2 W:=((zF w2).drew).zC hR;obtain⟨bm,v2,v6,e8,RM,⟨cad,ccap,rfl,oc,lc⟩,⟨gt,rfl,ot,lt⟩,lb,nb1,nb2⟩:=(hFF 8 (by decide):∃bm v2 v6,vs 8=.pointer (some ⟨bm,0,none⟩)/\zB W bm [.slice none 0 0,(0:Int),.slice none 0 0,v2,.slice none 0 0,v6]/\zGV w2 W nc cs v2/\zGr w2 W nb v6/\w2.heap.size<=bm/\v2.ownBlock≠some bm/\v6.ownBlock≠some bm);simp only[zJ,tz,Option.bind,Act.put];rw[e8];have kW:=k2.zC HRW;have HKW:Hid (Keeps zA w W):=HK2.out.zC HRW;have HS2:Hid (w.heap.size<=w2.heap.size):=HK2.out.size;have HW3S:Hid (w2.heap.size<=W.heap.size):=HRW.size;have HO:Hid (W.ownsRow 0 3 1 (.slice cad nc ccap) nc (ints cs)/\W.ownsRow 0 132 3 (.slice (some ⟨gt,0,none⟩) nb nb) nb (zAR (List.replicate nb zDj))):=⟨oc,ot⟩;have HL:Hid ((∀g,(Value.slice cad nc ccap).ownBlock=some g->w2.heap.size<=g)/\w2.heap.size<=gt/\w2.heap.size<=bm/\(Value.slice cad nc ccap).ownBlock≠some bm/\gt≠bm):=⟨lc,lt,lb,nb1,λe=>nb2 (by rw[e];rfl)⟩;have HRM:=yA RM;obtain⟨B,hB⟩:=eX W.heap.size;have HB:=yA hB;have HB1:Hid (b1<w2.heap.size):=HBK.out;replace y1:=λW' (q:Keeps zA W W')=>y1 W' (kW.zC q)
  have k3:=zF W;clear hFF e8 RM oc lc ot lt lb nb1 nb2 hR kW k1 k2 hB HRW;generalize W=w3 at *;go_upto_region 6 with fail
  go_loopw [26] (λiv wr=>∃(i:Nat)(ta:Option Addr)(tc:Nat)(css:List (List Value)),i<=nb/\iv=.int .i64 i/\Hid (zB wr bm [.slice none 0 0,(0:Int),.slice ta i tc,.slice cad nc ccap,.slice none 0 0,.slice (some ⟨gt,0,none⟩) nb nb])/\Hid (Acc BdL (λ_=>False) B 2 48 wr (.slice ta i tc) (bs.take i) css)/\Hid (Keeps (λq=>q=bm) w3 wr)) (λiv _=>nb-(intOf iv).toNat)
  case atStart=>exact⟨0,none,0,[],yF _,rfl,HRM.out,Acc.nil w3,yB _ _⟩
  case round =>
   obtain⟨i,ta,tc,css,hi,rfl,HR,HA,HK⟩:=hrel;have HK0:Hid (Keeps zA w wr):=HKW.out.trans HK.out (λq hq e=>by have e':q=bm:=e;have h1:=HL.out.2.2.1;have h2:=HS2.out;omega);have kr:=zF wr;have ym:=HR.out.zGm;by_cases hlt:i<nb
   ·have i1:(0:Int)<=i:=by omega
    have i2:(i:Int)<nb:=by omega
    have hlt':i<bs.length:=by rw[<-HNN.out.2];exact hlt
    obtain⟨g,o,ba,bc,e1,hg,q0,q1,hacs⟩:=(HIN.out.2.1.keeps HK0.out (λ_ _ h=>h)) i hlt';subst e1;have hsz:Ac.szL bs[i].acts<=zAj bs:=Nat.le_of_lt (zDk (yI hlt'));have d:∀W,Keeps zA wr W->W.cell? ⟨g,o+i*2,none⟩=some (.int .i64 bs[i].regs)/\W.cell? ⟨g,o+i*2+1,none⟩=some (.slice ba bs[i].acts.length bc):=λW hk=>⟨hk.cell (λh=>h) q0,hk.cell (λh=>h) q1⟩
    have HCA:Hid (∀W,Keeps zA wr W->Calls Tryz.prog 60 #[.slice ba bs[i].acts.length bc] W λe w'=>∃ad' cap',e=.returned (.slice ad' bs[i].acts.length cap')/\zA3 w' (Since W.heap.size w') bs[i].acts (.slice ad' bs[i].acts.length cap')/\Keeps zA W w'):=λW hk=>zOk _ bs[i].acts (yT _) (by have:=HIN.out.2.2.2.2.1;omega) W F ba bc (hacs.keeps hk (λ_ _ h=>h))
    obtain⟨y,hy⟩:=eX (bs[i]);have HY:Hid (bs.take (i+1)=bs.take i++[y]):=by show _=_;rw[take_at hlt',hy]
    rw[<-hy] at HCA d;have HLEN:Hid ((bs.take i).length=i):=by show _=_;rw[List.length_take];omega
    have i3:i+1<=1000000000:=by omega
    obtain⟨na,hna⟩:=eX y.acts.length;have HNA:=yA hna;rw[<-hna] at HCA d;clear q0 q1 hacs hy hg hsz hna;go_upto_region 8 with fail
    obtain⟨b7,w7,e1,e2,R7,K7,_⟩:=newRow wr [y.regs,.slice ba na bc] 48;try rw[e1]
    try rw[e2]
    have y7:=R7.all2;have k7:=zF w7;have HK7:=yA K7;have K7':=K7;clear e1 e2 R7 K7 d
    refine zB5 13 0 (by kernel_rfl) [some (.pointer (some ⟨bm,0,none⟩)),some (.pointer (some ⟨bm,0,none⟩)),some (.pointer (some ⟨bm,0,none⟩)),some (.pointer (some ⟨bm,0,none⟩)),some (.pointer (some ⟨bm,2,none⟩)),some (.slice ta i tc),some (.pointer (some ⟨b7,0,none⟩)),some (.int .i64 y.regs),some (.pointer (some ⟨b7,1,none⟩)),some (.slice ba na bc),none,none,none] rfl (λj v W=>if j=10 then (∃a1 c1,v=.slice a1 na c1/\zA3 W (Since w7.heap.size W) y.acts (.slice a1 na c1)) else if j=11 then (∃a1 c1,v=.agg #[y.regs,.slice a1 na c1]/\zA3 W (Since w7.heap.size W) y.acts (.slice a1 na c1)) else ∃b a1 c1,v=.slice (some ⟨b,0,none⟩) 1 1/\zB W b [y.regs,.slice a1 na c1]/\zA3 W (Since w7.heap.size W) y.acts (.slice a1 na c1)) (λj v W W' h hk=>by
     revert h
     split
     ·exact J57 _
     ·split
      ·exact J57 _
      ·rintro⟨b,a1,c1,e,h0,h1⟩;exact⟨b,a1,c1,e,h0.keeps hk (λh=>h),(h1.keeps hk (λ_ _ h=>h)).mono (λk hk'=>⟨hk'.1,yH hk'.2 hk.size⟩)⟩) _ rfl (λ_ _ _ _ h=>h) _ rfl (λ_ _ _=>by exact J171 _) ?_ ?_
    ·refine⟨?_,?_,?_,?_,?_,?_,?_,?_,?_,?_,?_,?_,?_,trivial⟩ <;> (intro vs gs W Q' hR hd hK;have HRW:Keeps zA w7 W:=((zF w7).drew).zC hR;have kW:=K7'.zC HRW;simp only[zBK,zAt,zBo,zJ,tz,Option.bind,Act.put] at hd hK ⊢;try simp only[hd] at hK ⊢)
     all_goals try(try clear hd;go_wp2_with (fail);first|exact hK _ _ (yB _ _) rfl)
     ·clear hd
      have HW9:Hid (w7.heap.size<=W.heap.size):=HRW.size;go_wp2_with (go_at_call 60;refine(HCA.out _ kW).mono ?_;rintro e W1 ⟨ad2,cp2,rfl,s1,g1⟩;have HS1:=yA s1;clear s1)
      exact hK _ _ g1 (by show ∃a1 c1,_;exact⟨ad2,cp2,rfl,HS1.out.mono (λk hk=>⟨yX HW9.out hk.1,hk.2⟩)⟩)
     ·obtain⟨a1,c1,e10,h10⟩:=(hd.2.1:∃a1 c1,vs 10=.slice a1 na c1/\zA3 W (Since w7.heap.size W) y.acts (.slice a1 na c1))
      rw[e10] at hK ⊢;have H10:=yA h10;clear hd e10 h10;go_wp2_with fail
      exact hK _ _ (yB _ _) (by show ∃a1 c1,_;exact⟨a1,c1,rfl,H10.out⟩)
     ·obtain⟨a1,c1,e11,h11⟩:=(hd.1:∃a1 c1,vs 11=.agg #[y.regs,.slice a1 na c1]/\zA3 W (Since w7.heap.size W) y.acts (.slice a1 na c1))
      rw[e11] at hK ⊢;have H11:=yA h11;clear hd e11 h11;go_wp2_with fail
      have hka:=(yB zA W).alloc (.cells #[y.regs,.slice a1 na c1] 48);exact hK _ _ hka (by show ∃b a1 c1,_;exact⟨_,a1,c1,rfl,yK (yG W _),(H11.out.keeps hka (λ_ _ h=>h)).mono (λk hk'=>⟨hk'.1,yH hk'.2 hka.size⟩)⟩)
    ·intro vs W hR hFF
     have HRW:Keeps zA w7 W:=((zF w7).drew).zC hR;have HKW2:Hid (Keeps zA wr W):=HK7.out.zC HRW;have e0:vs 0=_:=hFF 0 (by decide);have e5:vs 5=_:=hFF 5 (by decide);obtain⟨gs,a1,c1,e12,hgs,hac⟩:=(hFF 12 (by decide):∃b a1 c1,vs 12=.slice (some ⟨b,0,none⟩) 1 1/\zB W b [y.regs,.slice a1 na c1]/\zA3 W (Since w7.heap.size W) y.acts (.slice a1 na c1));simp only[zJ,tz,Option.bind,Act.put];rw[e0,e5,e12];have HGS:=yA hgs;have HAC:=yA hac;have HAW:=yA (HA.out.zG zKy HKW2.out);have HRB:=yA (HR.out.keeps HKW2.out (λh=>h));have hOB:Hid (∀q,(Value.slice ta i tc).ownBlock=some q->B<=q):=HA.out.2.2.1;have HBM:Hid (bm<B):=by show _<_;rw[HB.out];exact HRM.out.lt (by simp)
     clear hFF e0 e5 e12 hgs hac hR HRW y7 k7 ym kr K7' y1 k3;go_upto_region 9 with(at_builtin;refine zI _ (by rfl) _ _ 23 (by rfl) 0 48 kB _ 2 32 Tryz.underlying23 hkB bz0 bz1 bz2 rfl (by decide) (.slice ta i tc) i css.flatten (by rfl) (J188 _) (.slice (some ⟨gs,0,none⟩) 1 1) 1 [.int .i64 y.regs,.slice a1 na c1] (by rfl) (xE HGS.out) rfl (J182 _) (by unfold maxLen;omega) (by omega) (yF _) ?_;intro da2 dc2 w9 ha;have HAO:=yA ha;have k9:=xD ha (yB (λq=>(Value.slice ta i tc).ownBlock=some q) W) (λq e _=>e);have r9:=HRB.out.keeps k9 (λe=>by have h1:=hOB.out bm e;have h2:=HBM.out;omega);have y9:=r9.zGm;have f9:=r9.frz (k:=2) (by simp);have k9n:=zF w9;have HR9:=yA r9;have HK9:=yA k9;clear ha k9 r9)
     have hB1:B<=wr.heap.size:=J242 _
     have hel:BdL W (zB1 (λ_=>False) B W (.slice ta i tc)) y [.int .i64 y.regs,.slice a1 na c1]:=by
      refine⟨a1,c1,by rw[HNA.out],?_⟩
      rw[<-HNA.out];refine HAC.out.mono (λq hq=>.inr ⟨by have:=HK7.out.size;have:=hq.1;omega,hq.2,λe=>?_⟩)
      have h0:q<wr.heap.size:=zM HA.out.2.1 e;have:=HK7.out.size;have:=hq.1;omega
     have hpush:=HAW.out.push zKy (λk hk=>hk.elim) (by have h1:=HKW2.out.size;omega) hel (by decide) (ad:=da2) (cap:=dc2) (w':=w9) (J199 _);rw[HLEN.out] at hpush;have hset:Keeps (λq=>q=bm) w9 (w9.setCell ⟨bm,2,none⟩ (.slice da2 (i+1) dc2)):=(yB (λq=>q=bm) w9).setCell (p:=⟨bm,2,none⟩) (λ_=>rfl) _
     have HPU:Hid (Acc BdL (λ_=>False) B 2 48 (w9.setCell ⟨bm,2,none⟩ (.slice da2 (i+1) dc2)) (.slice da2 (i+1) dc2) (bs.take (i+1)) (css++[[.int .i64 y.regs,.slice a1 na c1]])):=by
      rw[HY.out];exact hpush.keeps zKy hset (λk hk=>⟨by have e':k=bm:=hk;have:=HBM.out;omega,λh=>h⟩)
     have HRO:Hid (zB (w9.setCell ⟨bm,2,none⟩ (.slice da2 (i+1) dc2)) bm [.slice none 0 0,.int .i64 0,.slice da2 (i+1) dc2,.slice cad nc ccap,.slice none 0 0,.slice (some ⟨gt,0,none⟩) nb nb]):=HR9.out.set 2 (by simp) _
     have HKE:Hid (Keeps (λq=>q=bm) w3 (w9.setCell ⟨bm,2,none⟩ (.slice da2 (i+1) dc2))):=
      (((HK.out.trans HKW2.out (λ_ _ h=>h.elim)).trans HK9.out (λq hq e=>by have h1:=hOB.out q e;have h2:=HB.out;omega)).trans hset (λ_ _ h=>h))
     clear hpush hset hel hB1 y9 f9 k9n;go_wp2_with fail
     go_roundw
     case rel=>exact⟨i+1,da2,dc2,_,by omega,by go_num,HRO,HPU,HKE⟩
     case measure=>simp[intOf];omega
   ·have hin:nb=i:=by omega
    subst hin
    have y1r:∀W',Keeps zA wr W'->W'.cell? ⟨b1,1,none⟩=some (.int .i64 mu):=λW' q=>q.cell (λh=>h) (HK.out.cell (p:=⟨b1,1,none⟩) (λe=>by
     have e':b1=bm:=e;have h1:=HL.out.2.2.1;have h2:=HB1.out;omega) (y1 w3 k3).2.1)
    have HMU0:Hid (0<=mu/\mu<=8):=⟨b4,b5⟩;clear y1 k3 ym;go_upto_region 11 with fail
    generalize hwl:wr=wL at *;clear hwl;have kL:=zF wL;have HLS:Hid (B<=wL.heap.size/\bm<B):=⟨by exact J242 _,by rw[HB.out];exact HRM.out.lt (by simp)⟩;obtain⟨nm,hnm⟩:=eX mu.toNat;have hnm':(nm:Int)=mu:=by omega
    have HNM:=yA (And.intro hnm hnm');go_loopw [50] (λiv wr=>∃(i:Nat)(oa:Option Addr)(oc:Nat),i<=nm/\iv=.int .i64 i/\Hid (zB wr bm [.slice none 0 0,(0:Int),.slice ta nb tc,.slice cad nc ccap,.slice oa i oc,.slice (some ⟨gt,0,none⟩) nb nb])/\Hid (wr.ownsRow 0 3 1 (.slice oa i oc) i (ints (List.replicate i (-1)))/\∀g,(Value.slice oa i oc).ownBlock=some g->wL.heap.size<=g)/\Hid (Keeps (λq=>q=bm) wL wr)) (λiv _=>nm-(intOf iv).toNat)
    case atStart=>exact⟨0,none,0,yF _,rfl,HR.out,⟨World.ownsRow_nil _ _ _ _,λg e=>by exact J170 _⟩,yB _ _⟩
    case round =>
     obtain⟨k,oa,oc,hk,rfl,HR2,HO2,HKL⟩:=hrel;have kr:=zF wr;have ym:=HR2.out.zGm;by_cases hlt:k<nm
     ·have i1:(k:Int)<mu:=by omega
      have i3:k+1<=1000000000:=by omega
      have f4:=HR2.out.frz (k:=4) (by simp);go_upto_region 13 with(at_builtin;refine zI _ (by rfl) _ _ 22 (by rfl) 0 3 kI _ 1 8 Tryz.underlying22 hkI iz0 iz1 iz2 rfl (by decide) (.slice oa k oc) k (ints (List.replicate k (-1))) (by rfl) (zD HO2.out.1 ((yB zA wr).alloc _) (λ_ _ h=>h)) (.slice (some ⟨wr.heap.size,0,none⟩) 1 1) 1 [.int .i64 (-1)] (by rfl) (xE (yK (yG wr _))) rfl (J168 _) (by unfold maxLen;omega) (by omega) (yF _) ?_;intro da2 dc2 w9 ha;have HAO:=yA ha;have k9:Keeps (λq=>(Value.slice oa k oc).ownBlock=some q) wr w9:=(((yB zA wr).alloc _).mono (λ_ _ h=>h.elim)).trans (xD ha (yB (λq=>(Value.slice oa k oc).ownBlock=some q) _) (λq e _=>e)) (λ_ _ h=>h);have r9:=HR2.out.keeps k9 (λe=>by have h1:=HO2.out.2 bm e;have h2:=HLS.out;omega);have y9:=r9.zGm;have f9:=r9.frz (k:=4) (by simp);have k9n:=zF w9;have HR9:=yA r9;have HK9:=yA k9;clear ha k9 r9)
      have hset:Keeps (λq=>q=bm) w9 (w9.setCell ⟨bm,4,none⟩ (.slice da2 (k+1) dc2)):=(yB (λq=>q=bm) w9).setCell (p:=⟨bm,4,none⟩) (λ_=>rfl) _
      have hnew:∀g,(Value.slice da2 (k+1) dc2).ownBlock=some g->wL.heap.size<=g:=λg e=>by
       rcases HAO.out.2.2 g e with h1|h1
       ·exact HO2.out.2 g h1
       ·rw[h1];have:=HKL.out.size;simp;omega
      have HPU:Hid ((w9.setCell ⟨bm,4,none⟩ (.slice da2 (k+1) dc2)).ownsRow 0 3 1 (.slice da2 (k+1) dc2) (k+1) (ints (List.replicate (k+1) (-1)))/\∀g,(Value.slice da2 (k+1) dc2).ownBlock=some g->wL.heap.size<=g):=by
       refine⟨zD ?_ hset (λq e1 e2=>by have h1:=hnew q e1;have h2:=HLS.out;have e':q=bm:=e2;omega),hnew⟩
       have h1:=HAO.out.1;have e:ints (List.replicate (k+1) (-1))=ints (List.replicate k (-1))++[.int .i64 (-1)]:=by rw[kF];simp[ints]
       rw[e];exact h1
      have HRO:Hid (zB (w9.setCell ⟨bm,4,none⟩ (.slice da2 (k+1) dc2)) bm [.slice none 0 0,.int .i64 0,.slice ta nb tc,.slice cad nc ccap,.slice da2 (k+1) dc2,.slice (some ⟨gt,0,none⟩) nb nb]):=HR9.out.set 4 (by simp) _
      have HKE:Hid (Keeps (λq=>q=bm) wL (w9.setCell ⟨bm,4,none⟩ (.slice da2 (k+1) dc2))):=
       ((HKL.out.trans HK9.out (λq hq e=>by have h1:=HO2.out.2 q e;omega)).trans hset (λ_ _ h=>h))
      clear hset hnew y9 f9 k9n ym kr f4;go_wp2_with fail
      go_roundw
      case rel=>exact⟨k+1,da2,dc2,by omega,by go_num,HRO,HPU,HKE⟩
      case measure=>simp[intOf];omega
     ·have hkn:nm=k:=by omega
      subst hkn;have i1:¬(nm:Int)<mu:=by omega
      go_upto_region 15 with fail
      generalize hwo:wr=wO at *;clear hwo;have kO:=zF wO;have HKO:Hid (Keeps (λq=>q=bm) w3 wO):=HK.out.trans HKL.out (λ_ _ h=>h);have HGT:Hid (zB wO gt (zAR (List.replicate nb zDj))):=(uB HO.out.2).keeps HKO.out (λe=>HL.out.2.2.2.2 e);have ym:=HR2.out.zGm;have b20:(nb:Int)<=8:=by omega
      go_loopw [67] (λiv wr=>∃(i:Nat),i<=nb/\iv=.int .i64 i/\Hid (zB wr gt (zAR (List.replicate i zDd++List.replicate (nb-i) zDj)))/\Hid (Keeps (λq=>q=gt) wO wr)) (λiv _=>nb-(intOf iv).toNat)
      case atStart=>exact⟨0,yF _,rfl,HGT.out,yB _ _⟩
      case round =>
       obtain⟨i,hi2,rfl,HR3,HK3⟩:=hrel;have kr3:=zF wr;have HRM3:=yA (HR2.out.keeps HK3.out (λe=>HL.out.2.2.2.2 (by have e':bm=gt:=e;exact e'.symm)));have ym3:=HRM3.out.zGm;by_cases hlt:i<nb
       ·have i1:(0:Int)<=i:=by omega
        have i2:(i:Int)<nb:=by omega
        have hg:=zPh zDd zDj nb i hlt;have tc0:=zL (zAP HR3.out hg).1;have tf0:∀W,Keeps zA wr W->W.frozen? ⟨gt,i*3,none⟩=false:=zK (zD0 HR3.out (i:=i) (yP.1 hg).1 0 (by decide)) ⟨_,(zAP HR3.out hg).1⟩
        have HS3:Hid (zB (wr.setCell ⟨gt,i*3,none⟩ (.int .i64 1)) gt (zAR (List.replicate (i+1) zDd++List.replicate (nb-(i+1)) zDj))):=by
         have:=zEc HR3.out hg 0 (by decide) (.int .i64 1) zDd rfl
         rw[zOZ zDd zDj nb i hlt] at this;exact this
        have HKS:Hid (Keeps (λq=>q=gt) wO (wr.setCell ⟨gt,i*3,none⟩ (.int .i64 1))):=HK3.out.setCell (p:=⟨gt,i*3,none⟩) (λ_=>rfl) _;clear hg ym;go_wp2_with fail
        go_roundw
        case rel=>exact⟨i+1,by omega,by go_num,HS3,HKS⟩
        case measure=>simp[intOf];omega
       ·have hin:nb=i:=by omega
        subst hin
        have HF:Hid (zB wr gt (zAR (List.replicate nb zDd))):=by
         have:=HR3.out
         rw[Nat.sub_self,List.replicate_zero,List.append_nil] at this;exact this
        have HKW3:Hid (Keeps zA w wr):=((HKW.out.trans HKO.out (λq hq e=>by have e':q=bm:=e;have h1:=HL.out.2.2.1;have h2:=HS2.out;omega)).trans HK3.out (λq hq e=>by have e':q=gt:=e;have h1:=HL.out.2.1;have h2:=HS2.out;omega))
        have HMK:Hid (∃T' F' p,MaP zm 1 148 zBk wr T' F' id bm ⟨cs,mu,bs⟩ p (zJH ⟨cs,mu,bs⟩) (List.replicate nb zDd)/\zAT T T' id w/\(∀k,F' k->w.heap.size<=k)):=by
         have hA:=HA.out;have hnb2:bs.take nb=bs:=by rw[HNN.out.2,xS]
         rw[hnb2] at hA;have hbd:=hA.zSQ;have hS2:=HS2.out;have hS3:w2.heap.size<=w3.heap.size:=by have h1:=HW3S.out;exact h1
         have hB:=HB.out;have hgtlt:gt<w3.heap.size:=zM HO.out.2 rfl;have hclt:∀g,(Value.slice cad nc ccap).ownBlock=some g->g<w3.heap.size:=λg e=>zM HO.out.1 e
         have hKLr:Keeps (λq=>q=bm\/q=gt) wL wr:=(HKL.out.mono (λ_ _ h=>.inl h)).trans HK3.out (λ_ _ h=>.inr h);have hno:(List.replicate mu.toNat (-1:Int)).length=nm:=by rw[uF,<-HNM.out.1]
         have hls:=HLS.out;have hcB:w3.ownsRow 0 3 1 (.slice cad nc ccap) nc (ints cs):=HO.out.1
         have key:∃T',MaP zm 1 148 zBk wr T' (Since B wL) id bm ⟨cs,mu,bs⟩ ⟨none,0,0,0,ta,tc,cad,ccap,oa,oc,gt,nb⟩ (zJH ⟨cs,mu,bs⟩) (List.replicate nb zDd)/\zAT T T' id w:=by
          refine MaP.make (n:=nb) (ei:=3) HIN.out.2.2.1 HKW3.out.size ?_ ?_ ?_ ?_ HF.out ?_ ?_ ?_ ?_ ?_ ?_ ?_ ?_ ?_
          ·show zB wr bm [.slice none 0 0,(0:Int),.slice ta bs.length tc,.slice cad cs.length ccap,.slice oa (List.replicate mu.toNat (-1:Int)).length oc,.slice (some ⟨gt,0,none⟩) (bs.map λ_=>(⟨1,[],[]⟩:WTh)).length nb]
           rw[hno,kE,<-HNN.out.1,<-HNN.out.2];exact HRM3.out
          ·show(bs.map λ_=>(⟨1,[],[]⟩:WTh))=List.replicate nb ⟨1,[],[]⟩
           rw[HNN.out.2];exact List.map_const' ..
          ·show wr.ownsRow 0 3 1 (.slice cad cs.length ccap) cs.length (ints cs)
           rw[<-HNN.out.1];exact zD (zD hcB HKO.out (λq e1 e2=>HL.out.2.2.2.1 (by have e':q=bm:=e2;rw[<-e'];exact e1))) HK3.out (λq e1 e2=>by have e':q=gt:=e2;rw[e'] at e1;exact zE4 hcB HO.out.2 (by decide) e1 rfl)
          ·show wr.ownsRow 0 3 1 (.slice oa (List.replicate mu.toNat (-1:Int)).length oc) (List.replicate mu.toNat (-1:Int)).length (ints (List.replicate mu.toNat (-1)))
           rw[hno,<-HNM.out.1];exact zD HO2.out.1 HK3.out (λq e1 e2=>by have e':q=gt:=e2;have:=HO2.out.2 q e1;omega)
          ·exact hbd.keeps hKLr (λq hq e=>by have h1:=hq.1;rcases e with e|e <;> omega)
          ·intro q hq
           have h1:=hq.1;have h2:=hq.2;refine⟨by omega,yH h2 hKLr.size,by omega,by show¬q=gt;omega,λe=>?_,λe=>?_⟩
           ·have h3:=hclt q (by have e':(Value.slice cad cs.length ccap).ownBlock=some q:=e;rw[<-HNN.out.1] at e';exact e')
            omega
           ·have h3:=HO2.out.2 q (by have e':(Value.slice oa (List.replicate mu.toNat (-1:Int)).length oc).ownBlock=some q:=e;rw[hno] at e';exact e')
            omega
          ·have h1:=HL.out.2.2.1;omega
          ·show w.heap.size<=gt
           have h1:=HL.out.2.1;omega
          ·intro g e
           have e':(Value.slice cad nc ccap).ownBlock=some g:=by have e':(Value.slice cad cs.length ccap).ownBlock=some g:=e;rw[<-HNN.out.1] at e';exact e'
           refine⟨by have h1:=HL.out.1 g e';omega,λh=>HL.out.2.2.2.1 (by rw[<-h];exact e'),λh=>?_⟩
           have h:g=gt:=h;rw[h] at e';exact zE4 hcB HO.out.2 (by decide) e' rfl
          ·intro g e
           have e':(Value.slice oa nm oc).ownBlock=some g:=by have e':(Value.slice oa (List.replicate mu.toNat (-1:Int)).length oc).ownBlock=some g:=e;rw[hno] at e';exact e'
           have h1:=HO2.out.2 g e';refine⟨by omega,by omega,by show¬g=gt;omega,λe2=>?_⟩
           have e3:(Value.slice cad nc ccap).ownBlock=some g:=by have e3:(Value.slice cad cs.length ccap).ownBlock=some g:=e2;rw[<-HNN.out.1] at e3;exact e3
           have h2:=hclt g e3;omega
          ·exact λe=>HL.out.2.2.2.2 e.symm
          ·have h1:=hKLr.size;omega
          ·show gt<wr.heap.size
           have h1:=hKLr.size;omega
         obtain⟨T',h1,h2⟩:=key;exact⟨T',_,_,h1,h2,λq hq=>by have h1:=hq.1;omega⟩
        obtain⟨T',F',p',M0,x0,hF0⟩:=HMK.out;have HBG:=yA (zHd (i:=0) M0 HIN.out.2.2.2.2.2 zMz (by show 0<(bs.map λ_=>(⟨1,[],[]⟩:WTh)).length;rw[kE];have:=HLB.out.1;omega));have HX0:Hid (zAT T T' id w/\(∀k,F' k->w.heap.size<=k)):=⟨x0,hF0⟩;clear M0 x0 hF0 HMK ym ym3;go_wp2_with (go_at_call 61;refine HBG.out.mono ?_;rintro e wF ⟨rfl,gF⟩;have HGF:=yA gF;clear gF)
        obtain⟨TF,HF2,MF,xF,qF⟩:=HGF.out;rw[HQ.out];refine⟨bm,TF,F',p',HF2,rfl,MF,HX0.out.1.trans ⟨xF.1,λk y e=>(xF.2 k y e).imp (λh=>h) (λh=>⟨h.1,h.2⟩)⟩ HKW3.out.size,?_,HX0.out.2⟩
        exact HKW3.out.trans qF (λk hlt e=>by
         obtain⟨t,e⟩:=e;rcases HX0.out.1.2 k _ e with h1|h1
         ·exact HIN.out.2.2.2.1 k t h1
         ·omega)
end
