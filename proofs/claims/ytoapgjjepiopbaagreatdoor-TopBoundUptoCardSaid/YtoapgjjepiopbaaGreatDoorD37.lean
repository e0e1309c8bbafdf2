/- Layer D: texts joined. -/
import Derived.Test.YtoapgjjepiopbaaGreatDoorD35
set_option linter.all false
set_option maxHeartbeats 2000000
set_option maxRecDepth 8000
namespace Go.Proofs.YtoapgjjepiopbaaGreatDoor
open Go.RowKit
theorem J210(P:Prop)(h:P:=by have h1:=HKS.out.size;have h2:=HB2.out;rcases e with e|e <;> omega):P:=h
def zCB:Value:=.slice none 0 0
theorem zJF:(Tryz.prog.info? 138).map (λi=>(i.zero,i.size,i.bytes))=some (some (.agg #[(0:Int),(0:Int)]),2,16):=by kernel_rfl
def zIl(m:zy)(k:Nat):List Int:=(m.zP.take k).map (·.st)
def zPp(m:zy)(k:Nat):List (Int × Int):=(List.range k).map (zAc m)
def zCe(p:Int × Int):List Value:=[.int .i64 p.1,.int .i64 p.2]
def zEC(m:zy)(k:Nat):List Value:=(zPp m k).flatMap zCe
theorem zMK{m:zy}{k:Nat}{f:WTh}(h:m.zP[k]?=some f):ints (zIl m (k+1))=ints (zIl m k)++[.int .i64 f.st]:=by
 obtain⟨hk,e⟩:=yP.1 h;simp[zIl,ints,List.take_add_one,h]
theorem zKc(m:zy)(k:Nat):zEC m (k+1)=zEC m k++zCe (zAc m k):=by
 simp[zEC,zPp,List.range_succ,List.flatMap_append]
structure zOB(w:World)(m:zy)(c1 c2 c3 c4:Value)(w':World):Prop where
 keeps:Keeps zA w w'
 cells:zAV w' w.heap.size c1 m.cells.length (ints m.cells)
 owners:zAV w' w.heap.size c2 m.owners.length (ints m.owners)
 sts:zAV w' w.heap.size c3 m.zP.length (ints (zIl m m.zP.length))
 next:zAV w' w.heap.size c4 m.zP.length (zEC m m.zP.length)
def zNu(w:World)(m:zy)(e:Ending)(w':World):Prop:=
 ∃a1 a2 c3 c4,e=.returned (.agg #[.slice a1 m.cells.length m.cells.length,.slice a2 m.owners.length m.owners.length,c3,c4])/\zOB w m (.slice a1 m.cells.length m.cells.length) (.slice a2 m.owners.length m.owners.length) c3 c4 w'
def zMI(b B:Nat)(cv ov:Value)(xs ys:List Int)(j:Nat)(v:Value)(W:World):Prop:=
 match j with
 | 0=>v=.pointer (some ⟨b,0,none⟩)
 | 1=>v=.pointer (some ⟨b,0,none⟩)
 | 2=>v=.pointer (some ⟨b,3,none⟩)
 | 3=>v=cv
 | 4=>∃ad cap,v=.slice ad xs.length cap/\W.ownsRow 0 3 1 v xs.length (ints xs)/\∀kb,v.ownBlock=some kb->B<=kb
 | 5=>∃ad,v=.slice ad xs.length xs.length/\zAV W B v xs.length (ints xs)
 | 6=>v=.pointer (some ⟨b,0,none⟩)
 | 7=>v=.pointer (some ⟨b,0,none⟩)
 | 8=>v=.pointer (some ⟨b,4,none⟩)
 | 9=>v=ov
 | 10=>∃ad cap,v=.slice ad ys.length cap/\W.ownsRow 0 3 1 v ys.length (ints ys)/\∀kb,v.ownBlock=some kb->B<=kb
 | 11=>∃ad,v=.slice ad ys.length ys.length/\zAV W B v ys.length (ints ys)
 | 12=>∃a1 a2,v=.agg #[.slice a1 xs.length xs.length,.slice a2 ys.length ys.length,.slice none 0 0,.slice none 0 0]/\zAV W B (.slice a1 xs.length xs.length) xs.length (ints xs)/\zAV W B (.slice a2 ys.length ys.length) ys.length (ints ys)
 | 13=>∃z,v=.pointer (some ⟨z,0,none⟩)/\B<=z/\zB W z [zCB,zCB,zCB,zCB]
 | _=>True
theorem zAV.zG{w w':World}{B:Nat}{v:Value}{n:Nat}{cs:List Value}(h:zAV w B v n cs)(hk:Keeps zA w w'):zAV w' B v n cs:=h.keeps hk (λ_ _ h=>h)
theorem zMI.st{b B:Nat}{cv ov:Value}{xs ys:List Int}(j:Nat)(v:Value)(W W':World)(h:zMI b B cv ov xs ys j v W)(hk:Keeps zA W W'):zMI b B cv ov xs ys j v W':=by
 unfold zMI at *;split at h
 case h_5=>obtain⟨ad,cap,e,h1,h2⟩:=h;exact⟨ad,cap,e,zD h1 hk (λ_ _ h=>h),h2⟩
 case h_6=>obtain⟨ad,e,h1⟩:=h;exact⟨ad,e,h1.zG hk⟩
 case h_11=>obtain⟨ad,cap,e,h1,h2⟩:=h;exact⟨ad,cap,e,zD h1 hk (λ_ _ h=>h),h2⟩
 case h_12=>obtain⟨ad,e,h1⟩:=h;exact⟨ad,e,h1.zG hk⟩
 case h_13=>obtain⟨a1,a2,e,h1,h2⟩:=h;exact⟨a1,a2,e,h1.zG hk,h2.zG hk⟩
 case h_14=>obtain⟨z,e,h1,h2⟩:=h;exact⟨z,e,h1,h2.keeps hk (λh=>h)⟩
 all_goals first|exact h|trivial
theorem zEN{w:World}{g z:Nat}{xs:List Int}{a:Option Addr}{n c:Nat}{r:List Value}(h:zB w g (ints xs))(hn:xs.length≠0)(hz:zB w z (.slice a n c :: r)):g≠z:=by
 intro e
 subst e;cases xs with
 | nil=>exact hn rfl
 | cons k t =>
   have h1:=h.cell (k:=0) (v:=.int .i64 k) rfl;have h2:=hz.cell (k:=0) (v:=.slice a n c) rfl;rw[h1] at h2;cases h2
theorem zAV.zF8{S:Nat->Prop}{w w':World}{B n:Nat}{v:Value}{cs:List Value}(h:zAV w B v n cs)(hk:Keeps S w w')(hS:∀g,n≠0->zB w g cs->g<w.heap.size->¬S g)(hc:cs.length=0->n=0):zAV w' B v n cs:=by
 obtain⟨ad,cap,e,e1,e2,h1⟩:=h;refine⟨ad,cap,e,e1,e2,λhn=>?_⟩
 obtain⟨g,h2,h3,h4⟩:=h1 hn;exact⟨g,h2,h3,h4.keeps hk (hS g hn h4 (h4.lt (λe=>hn (hc (by rw[e];rfl)))))⟩
theorem zAV.mono{w:World}{B B' n:Nat}{v:Value}{cs:List Value}(h:zAV w B v n cs)(hB:B'<=B):zAV w B' v n cs:=by
 obtain⟨ad,cap,e,e1,e2,h1⟩:=h;refine⟨ad,cap,e,e1,e2,λhn=>?_⟩
 obtain⟨g,h2,h3,h4⟩:=h1 hn;exact⟨g,h2,yX hB h3,h4⟩
structure StL(w wS:World)(m:zy)(z B2:Nat)(c1 c2:Value)(k:Nat)(v3 v4:Value)(wr:World):Prop where
 row:zB wr z [c1,c2,v3,v4]
 own3:wr.ownsRow 0 3 1 v3 k (ints (zIl m k))
 own4:wr.ownsRow 0 138 2 v4 k (zEC m k)
 new3:∀kb,v3.ownBlock=some kb->B2<=kb
 new4:∀kb,v4.ownBlock=some kb->B2<=kb
 ne:∀kb,v3.ownBlock=some kb->v4.ownBlock≠some kb
 keep:Keeps (λq=>q=z\/B2<=q) wS wr
theorem zAV.clip{w:World}{B n cap:Nat}{ad:Option Addr}{xs:List Value}{e:TypeId}(h:w.ownsRow 0 e 1 (.slice ad n cap) n xs)(hb:∀k,(Value.slice ad n cap).ownBlock=some k->B<=k):zAV w B (.slice ad n n) n xs:=by
 have hn:n<=maxLen:=by
  rcases h.2 with⟨e,rfl⟩|⟨g,cap',cur,e,_,_,h1,h2,_⟩
  ·unfold maxLen;omega
  ·cases e;exact yX h1 h2
 obtain⟨ad',cap',e,h1,h2,h3⟩:=zAV.of (B:=B) h hb;cases e;refine⟨ad,n,rfl,hn,λe=>?_,h3⟩
 rcases h.2 with⟨e2,rfl⟩|⟨g,cap',cur,e2,_⟩
 ·rfl
 ·cases e2;cases e
def zME(b z k:Nat)(v4:Value)(p:Int × Int)(j:Nat)(v:Value)(W:World):Prop:=
 match j with
 | 0=>v=.pointer (some ⟨z,3,none⟩)
 | 1=>v=v4
 | 2=>v=.pointer (some ⟨b,0,none⟩)
 | 3=>v=.int .i64 k
 | 4=>v=.agg #[p.1,p.2]
 | 5=>∃g,v=.slice (some ⟨g,0,none⟩) 1 1/\zB W g (zCe p)
 | _=>True
theorem zME.st{b z k:Nat}{v4:Value}{p:Int × Int}(j:Nat)(v:Value)(W W':World)(h:zME b z k v4 p j v W)(hk:Keeps zA W W'):zME b z k v4 p j v W':=by
 unfold zME at *;split at h
 case h_6=>obtain⟨g,e,h1⟩:=h;exact⟨g,e,h1.keeps hk (λh=>h)⟩
 all_goals first|exact h|trivial
theorem zLj{w:World}{T:zZ}{F:Nat->Prop}{id b:Nat}{u:Un}{pp:zB8}{m:zy}{H:List HTh}(h:MaP zm 1 148 zBk w T F id b u pp m H)(hu:zX u=true)(hg:m.ok u):
 Calls Tryz.prog 30 #[.pointer (some ⟨b,0,none⟩)] w (zNu w m):=by
 obtain⟨cv,hcv⟩:=eX (Value.slice pp.cad m.cells.length pp.ccap);obtain⟨ov,hov⟩:=eX (Value.slice pp.oad m.owners.length pp.ocap);have k0:=h.zMd w (zF w);have k1:=h.zO4 w (zF w);have k3:=h.zCL w (zF w);have hri:=zBT hu;have hmc:m.cells.length<=8:=by rw[hg.cells];exact hri.2.2.1
 have hmo:m.owners.length<=8:=by rw[hg.owners];have:=hri.2.2.2.2.1;omega
 have HC0:Hid (∀W,Keeps zA w W->Calls Tryz.prog 59 #[.slice pp.cad m.cells.length pp.ccap] W (zBb 3 1 W m.cells.length (ints m.cells))):=λW hk=>zBl W _ m.cells ((h.cells.keeps hk (λ_ _ h=>h)).src) (by omega)
 have HC1:Hid (∀W,Keeps zA w W->Calls Tryz.prog 59 #[.slice pp.oad m.owners.length pp.ocap] W (zBb 3 1 W m.owners.length (ints m.owners))):=λW hk=>zBl W _ m.owners ((h.owners.keeps hk (λ_ _ h=>h)).src) (by omega)
 have HMA:Hid (∀W,Keeps zA w W->MaP zm 1 148 zBk W T F id b u pp m H):=λW hk=>vB zU zAG h hk
 have HUU:Hid (zX u=true/\m.zP.length<=8):=⟨hu,by rw[hg.zP];exact hri.2.1⟩;obtain⟨gf,hgf⟩:=eX pp.gt;obtain⟨cf,hcf⟩:=eX pp.ct;have HGF:=yA hgf;rw[<-hgf,<-hcf] at k3;clear hri hgf hcf;obtain⟨xs,hxs⟩:=eX m.cells;obtain⟨ys,hys⟩:=eX m.owners;rw[<-hxs] at HC0 hmc hcv k0;rw[<-hys] at HC1 hmo hov k1;have hCV:=hcv;have hOV:=hov;rw[<-hcv] at k0 HC0;rw[<-hov] at k1 HC1;have HG:=yA hg;obtain⟨ca0,cn0,cc0,hcs⟩:∃a n c,cv=.slice a n c:=⟨_,_,_,hcv⟩
 obtain⟨oa0,on0,oc0,hos⟩:∃a n c,ov=.slice a n c:=⟨_,_,_,hov⟩
 subst hcs hos;have HX:Hid (xs=m.cells):=hxs;have HY:Hid (ys=m.owners):=hys;clear h hg hxs hys hcv hov hCV hOV hu;go_enter Tryz.func30,Tryz.ntmps30
 go_upto_region 1 with fail
 refine zW 14 (by kernel_rfl) (by kernel_rfl) (Keeps zA) (yB zA) (λa b c h h'=>xJ h h') (zMI b (w.heap.size+1) (.slice ca0 cn0 cc0) (.slice oa0 on0 oc0) xs ys) zMI.st ?_ ?_
 ·intro i o hi ho vs W Q' hR hd hK
  have HR:Keeps zA w W:=(((yB zA w).alloc _).drew).zC hR;have hB:w.heap.size+1<=W.heap.size:=by have:=hR.size;simpa using this
  have k0':=HR.cell (p:=⟨b,3,none⟩) (λh=>h) k0;have k1':=HR.cell (p:=⟨b,4,none⟩) (λh=>h) k1;rcases (show i=0\/i=1\/i=2\/i=3\/i=4\/i=5\/i=6\/i=7\/i=8\/i=9\/i=10\/i=11\/i=12\/i=13 by omega) with rfl|rfl|rfl|rfl|rfl|rfl|rfl|rfl|rfl|rfl|rfl|rfl|rfl|rfl
  all_goals (simp only[yC,yD,yN] at ho;subst ho;simp only[zJ,yC,yD,yO,Option.bind,Act.put,yE,yM,yJ] at hK ⊢;clear hi)
  ·go_wp2_with fail
   exact J3 _
  ·exact J132 _
  ·exact J137 _
  ·exact J135 _
  ·have e3:vs 3=_:=hd 3 (by kernel_rfl)
   rw[e3] at hK ⊢;clear hd;go_wp2_with (go_at_call 59;refine(HC0.out _ HR).mono ?_;rintro e W1 ⟨ad,cap,rfl,g1,g2,g3⟩)
   exact hK _ _ g2 ⟨ad,cap,rfl,g1,λkb e=>yX hB (g3 kb e)⟩
  ·obtain⟨ad,cap,e4,h1,h2⟩:=(hd 4 (by kernel_rfl):∃ad cap,vs 4=.slice ad xs.length cap/\W.ownsRow 0 3 1 (vs 4) xs.length (ints xs)/\∀kb,(vs 4).ownBlock=some kb->w.heap.size+1<=kb)
   rw[e4] at hK h1 h2 ⊢;clear hd;go_wp2_with (go_at_call 69;refine(zDJ _ ad _ cap xs h1).mono ?_;rintro e W1 ⟨rfl,rfl⟩)
   exact hK _ _ (yB _ _) ⟨ad,rfl,zAV.clip h1 h2⟩
  ·go_wp2_with fail
   exact J3 _
  ·exact J160 _
  ·exact J147 _
  ·exact J146 _
  ·have e9:vs 9=_:=hd 9 (by kernel_rfl)
   rw[e9] at hK ⊢;clear hd;go_wp2_with (go_at_call 59;refine(HC1.out _ HR).mono ?_;rintro e W1 ⟨ad,cap,rfl,g1,g2,g3⟩)
   exact hK _ _ g2 ⟨ad,cap,rfl,g1,λkb e=>yX hB (g3 kb e)⟩
  ·obtain⟨ad,cap,e10,h1,h2⟩:=(hd 10 (by kernel_rfl):∃ad cap,vs 10=.slice ad ys.length cap/\W.ownsRow 0 3 1 (vs 10) ys.length (ints ys)/\∀kb,(vs 10).ownBlock=some kb->w.heap.size+1<=kb)
   rw[e10] at hK h1 h2 ⊢;clear hd;go_wp2_with (go_at_call 69;refine(zDJ _ ad _ cap ys h1).mono ?_;rintro e W1 ⟨rfl,rfl⟩)
   exact hK _ _ (yB _ _) ⟨ad,rfl,zAV.clip h1 h2⟩
  ·obtain⟨a1,e5,h1⟩:=(hd 5 (by kernel_rfl):∃ad,vs 5=.slice ad xs.length xs.length/\zAV W (w.heap.size+1) (vs 5) xs.length (ints xs))
   obtain⟨a2,e11,h2⟩:=(hd 11 (by kernel_rfl):∃ad,vs 11=.slice ad ys.length ys.length/\zAV W (w.heap.size+1) (vs 11) ys.length (ints ys));rw[e5] at h1;rw[e11] at h2;rw[e5,e11] at hK ⊢;clear hd;go_wp2_with fail
   exact hK _ _ (yB _ _) ⟨a1,a2,rfl,h1,h2⟩
  ·clear hd
   go_wp2_with fail
   exact hK _ _ ((yB _ _).alloc _) ⟨_,rfl,hB,yK (yG W _)⟩
 ·intro vs W hR hF
  have HR:Keeps zA w W:=(((yB zA w).alloc _).drew).zC hR;obtain⟨a1,a2,e12,h1,h2⟩:=(hF 12 (by decide):∃a1 a2,vs 12=.agg #[.slice a1 xs.length xs.length,.slice a2 ys.length ys.length,.slice none 0 0,.slice none 0 0]/\zAV W (w.heap.size+1) (.slice a1 xs.length xs.length) xs.length (ints xs)/\zAV W (w.heap.size+1) (.slice a2 ys.length ys.length) ys.length (ints ys));obtain⟨z,e13,h3,h4⟩:=(hF 13 (by decide):∃z,vs 13=.pointer (some ⟨z,0,none⟩)/\w.heap.size+1<=z/\zB W z [zCB,zCB,zCB,zCB]);simp only[zJ,yC,yD,yO,Option.bind,Act.put,yE,yM,yJ,yZ,yU];rw[e12,e13];clear hF;generalize vs 0=u0;generalize vs 1=u1;generalize vs 2=u2;generalize vs 3=u3;generalize vs 4=u4;generalize vs 5=u5;generalize vs 6=u6;generalize vs 7=u7;generalize vs 8=u8;generalize vs 9=u9;generalize vs 10=u10;generalize vs 11=u11;clear e12 e13;have H1:=yA h1;have H2:=yA h2;have H4:=yA h4;have HRR:=yA HR;have HRR2:=yA hR;have z0:=h4.cell (k:=0) (v:=zCB) rfl;have z1:=h4.cell (k:=1) (v:=zCB) rfl;have z2:=h4.cell (k:=2) (v:=zCB) rfl;have z3:=h4.cell (k:=3) (v:=zCB) rfl;have f0:=h4.free (k:=0) (by decide);have f1:=h4.free (k:=1) (by decide);have f2:=h4.free (k:=2) (by decide);have f3:=h4.free (k:=3) (by decide);have H3:=yA h3;clear h1 h2 h3 h4 HR hR;go_upto_region 2 with fail
  have hrow:zB (((((W.setCell ⟨z,0,none⟩ (.slice a1 xs.length xs.length)).setCell ⟨z,1,none⟩ (.slice a2 ys.length ys.length)).setCell ⟨z,2,none⟩ (.slice none 0 0)).setCell ⟨z,3,none⟩ (.slice none 0 0))) z [.slice a1 xs.length xs.length,.slice a2 ys.length ys.length,zCB,zCB]:=(((H4.out.set 0 (by simp) _).set 1 (by simp) _).set 2 (by simp) _).set 3 (by simp) _
  have hks:Keeps (λq=>q=z) W (((((W.setCell ⟨z,0,none⟩ (.slice a1 xs.length xs.length)).setCell ⟨z,1,none⟩ (.slice a2 ys.length ys.length)).setCell ⟨z,2,none⟩ (.slice none 0 0)).setCell ⟨z,3,none⟩ (.slice none 0 0))):=
   ((((yB (λq=>q=z) W).setCell (p:=⟨z,0,none⟩) (λ_=>rfl) _).setCell (p:=⟨z,1,none⟩) (λ_=>rfl) _).setCell (p:=⟨z,2,none⟩) (λ_=>rfl) _).setCell (p:=⟨z,3,none⟩) (λ_=>rfl) _
  generalize ((((W.setCell ⟨z,0,none⟩ (.slice a1 xs.length xs.length)).setCell ⟨z,1,none⟩ (.slice a2 ys.length ys.length)).setCell ⟨z,2,none⟩ (.slice none 0 0)).setCell ⟨z,3,none⟩ (.slice none 0 0))=wS at hrow hks ⊢;have HRW:Hid (zB wS z [.slice a1 xs.length xs.length,.slice a2 ys.length ys.length,zCB,zCB]):=hrow;have HZ0:w.heap.size<=z:=by have:=H3.out;omega
  have HKS:Hid (Keeps zA w wS):=HRR.out.trans hks (λk hlt e=>absurd hlt (by omega));have HF1:Hid (zAV wS (w.heap.size+1) (.slice a1 xs.length xs.length) xs.length (ints xs)):=H1.out.zF8 hks (λg hn hr _=>zEN hr hn H4.out) (by simp[ints]);have HF2:Hid (zAV wS (w.heap.size+1) (.slice a2 ys.length ys.length) ys.length (ints ys)):=H2.out.zF8 hks (λg hn hr _=>zEN hr hn H4.out) (by simp[ints]);have HY0:Hid (zB wS w.heap.size [zCB,zCB,zCB,zCB]):=((yK (yG w _)).drewN 1 |>.keeps HRR2.out (λh=>h)).keeps hks (λe=>by have e':w.heap.size=z:=e;have:=H3.out;omega);have k3':=HKS.out.cell (p:=⟨b,5,none⟩) (λh=>h) k3;clear k0 k1 k3 hrow hks z0 z1 z2 z3 f0 f1 f2 f3 H1 H2 H4 HRR HRR2 HC0 HC1;obtain⟨i0,hi0,hz0,hz1,hz2⟩:=info_parts zBI;obtain⟨j0,hj0,hy0,hy1,hy2⟩:=info_parts zJF;obtain⟨n,hn⟩:=eX m.zP.length;have hn8:n<=8:=by rw[hn];exact HUU.out.2
  have HN:Hid (n=m.zP.length):=hn;obtain⟨c1,hc1⟩:=eX (Value.slice a1 xs.length xs.length);obtain⟨c2,hc2⟩:=eX (Value.slice a2 ys.length ys.length);obtain⟨B2,hB2⟩:=eX wS.heap.size;have HB2:Hid (B2=wS.heap.size):=hB2;have HAP:Hid (∀g (l:List Int),zB wS g (ints l)->l.length≠0->g≠z):=λg l hr hn=>zEN hr hn HRW.out
  have HCE1:Hid (c1=Value.slice a1 xs.length xs.length):=hc1;have HCE2:Hid (c2=Value.slice a2 ys.length ys.length):=hc2;rw[<-hc1] at HRW HF1;rw[<-hc2] at HRW HF2;rw[<-hn] at k3';clear hn hc1 hc2 hB2;go_wp2_with fail
  go_loopw [24] (λkv wr=>∃k a3 q3 a4 q4,k<=n/\kv=.int .i64 (k:Nat)/\Hid (StL w wS m z B2 c1 c2 k (.slice a3 k q3) (.slice a4 k q4) wr)) (λkv _=>n-(intOf kv).toNat)
  case atStart=>exact⟨0,none,0,none,0,yF _,rfl,⟨HRW.out,World.ownsRow_nil _ _ _ _,World.ownsRow_nil _ _ _ _,λkb e=>by exact J170 _,λkb e=>by exact J170 _,λkb e=>by exact J170 _,yB _ _⟩⟩
  case round =>
   obtain⟨k,a3,q3,a4,q4,hk,rfl,hS⟩:=hrel;by_cases hlt:k<n
   ·have HKR:Hid (Keeps zA w wr):=HKS.out.trans hS.out.keep (λq hq e=>by exact J210 _)
    have HVr:=yA (HMA.out wr HKR.out);have hkf:k<m.zP.length:=by rw[<-HN.out];exact hlt
    have hf:m.zP[k]?=some m.zP[k]:=yL hkf;obtain⟨f,ef⟩:=eX (m.zP[k]);rw[<-ef] at hf;clear ef;have HF:=yA hf;have HNX:=yA (zMK hf)
    obtain⟨ra,rn,rc,pa,pn,pc,t0,t1,t2⟩:∃ra rn rc pa pn pc,wr.cell? ⟨gf,k*3,none⟩=some (.int .i64 f.st)/\wr.cell? ⟨gf,k*3+1,none⟩=some (.slice ra rn rc)/\wr.cell? ⟨gf,k*3+2,none⟩=some (.slice pa pn pc):=by
     obtain⟨rv,fv,hH,⟨ra,rc,e1,_⟩,⟨_,_,_,_,⟨pa,pc,e2⟩,_⟩⟩:=HVr.out.zP.get hf;rw[HGF.out];have:=zAP HVr.out.zP.row hH
     rw[e1,e2] at this;exact⟨ra,_,rc,pa,_,pc,this⟩
    have HA:Hid (∀W,Keeps zA w W->Calls Tryz.prog 64 #[.pointer (some ⟨b,0,none⟩),k] W λe w'=>e=.returned (.agg #[.int .i64 (zAc m k).1,.int .i64 (zAc m k).2])/\Keeps zA W w'):=λW hk=>zEZ (HMA.out W hk) HG.out hkf
    clear hf hkf;have i1:(0:Int)<=k:=by omega
    have i2:(k:Int)<n:=by omega
    have zr2:=hS.out.row.cell (k:=2) (v:=.slice a3 k q3) rfl;have zf2:=hS.out.row.free (k:=2) (by simp);have lz:z<wr.heap.size:=hS.out.row.lt (by simp);have lg:gf<wr.heap.size:=yR wr _ t0;have nz:z≠wr.heap.size:=by omega
    have ng:gf≠wr.heap.size:=by omega
    have LZ:Hid (z<B2):=by have:=HRW.out.lt (by simp);rw[HB2.out];exact this
    clear k3' hk;go_upto_region 6 with(at_builtin;refine zI _ (by rfl) _ _ 22 (by rfl) 0 3 i0 _ 1 8 Tryz.underlying22 hi0 hz0 hz1 hz2 rfl (by decide) (.slice a3 k q3) k (ints (zIl m k)) (by rfl) (zD hS.out.own3 (S:=zA) (((yB _ _).alloc _).alloc _) (λ_ _ h=>h)) (.slice (some ⟨wr.heap.size+1,0,none⟩) 1 1) 1 [.int .i64 f.st] (by rfl) (xE (yK (zAH _ _ _))) rfl (by simp[Value.oneCell']) (by unfold maxLen;omega) (by omega) (yF _) ?_;intro a3' q3' w6 hout;have HO:=yA hout;have HK6:Hid (Keeps (λq=>(Value.slice a3 k q3).ownBlock=some q) wr w6):=hout.keeps (((yB _ _).alloc _).alloc _) (λq e _=>e);have HR6:Hid (zB w6 z [c1,c2,.slice a3 k q3,.slice a4 k q4]):=hS.out.row.keeps HK6.out (λe=>by have h1:=hS.out.new3 z e;have h2:=LZ.out;omega);have zr6:=HR6.out.cell (k:=2) (v:=.slice a3 k q3) rfl;have zf6:=HR6.out.free (k:=2) (by simp);clear hout)
    have hm1:zB (w6.setCell ⟨z,2,none⟩ (.slice a3' (k+1) q3')) z [c1,c2,.slice a3' (k+1) q3',.slice a4 k q4]:=HR6.out.set 2 (by simp) _
    have hnz3:∀kb,(Value.slice a3' (k+1) q3').ownBlock=some kb->B2<=kb:=λkb e=>by
     rcases HO.out.2.2 kb e with h1|h1
     ·exact hS.out.new3 kb h1
     ·have h2:=hS.out.keep.size;have h3:=HB2.out;rw[h1];simp;omega
    have hK7:Keeps (λq=>q=z\/B2<=q) wS (w6.setCell ⟨z,2,none⟩ (.slice a3' (k+1) q3')):=(hS.out.keep.trans HK6.out (λq _ e=>.inr (hS.out.new3 q e))).setCell (p:=⟨z,2,none⟩) (λ_=>.inl rfl) _
    have hm2:(w6.setCell ⟨z,2,none⟩ (.slice a3' (k+1) q3')).ownsRow 0 3 1 (.slice a3' (k+1) q3') (k+1) (ints (zIl m (k+1))):=by
     rw[HNX.out];exact zD HO.out.1 (Keeps.setCell (S:=λq=>q=z) (p:=⟨z,2,none⟩) (yB _ _) (λ_=>rfl) _) (λq e e'=>by have h1:=hnz3 q e;have h2:=LZ.out;have e'':q=z:=e';omega)
    have hm3:(w6.setCell ⟨z,2,none⟩ (.slice a3' (k+1) q3')).ownsRow 0 138 2 (.slice a4 k q4) k (zEC m k):=by
     refine zD (zD hS.out.own4 HK6.out (λq e e'=>hS.out.ne q e' e)) (Keeps.setCell (S:=λq=>q=z) (p:=⟨z,2,none⟩) (yB _ _) (λ_=>rfl) _) (λq e e'=>by have h1:=hS.out.new4 q e;have h2:=LZ.out;have e'':q=z:=e';omega)
    have hne:∀kb,(Value.slice a3' (k+1) q3').ownBlock=some kb->(Value.slice a4 k q4).ownBlock≠some kb:=λkb e e'=>by
     rcases HO.out.2.2 kb e with h1|h1
     ·exact hS.out.ne kb h1 e'
     ·have h2:=zM hS.out.own4 e'
      simp at h1
      have h3:wr.heap.size<=wr.heap.size:=yT _;omega
    generalize w6.setCell ⟨z,2,none⟩ (.slice a3' (k+1) q3')=w7 at hm1 hm2 hm3 hK7 ⊢;have HM1:=yA hm1;have HM2:=yA hm2;have HM3:=yA hm3;have HNZ3:=yA hnz3;have HNE:=yA hne;have HK7:=yA hK7;have HK7':Hid (Keeps zA w w7):=HKS.out.trans HK7.out (λq hq e=>by exact J210 _);obtain⟨p,hp⟩:=eX (zAc m k);have HP:Hid (zEC m (k+1)=zEC m k++zCe p):=by rw[hp];exact zKc m k
    rw[<-hp] at HA;clear hm1 hm2 hm3 hnz3 hne hK7 hp t0 t1 t2 zr2 zf2 lz lg nz ng zr6 zf6 HR6 HO HK6 HNX HF HVr;refine zW 6 (by kernel_rfl) (by kernel_rfl) (Keeps zA) (yB zA) (λa b c h h'=>xJ h h') (zME b z k (.slice a4 k q4) p) zME.st ?_ ?_
    ·intro i o hi ho vs W Q' hR hd hK
     have HR:Keeps zA w7 W:=((yB zA w7).drew).zC hR;have z3:=(HM1.out.keeps HR (λh=>h)).cell (k:=3) (v:=.slice a4 k q4) rfl;rcases (show i=0\/i=1\/i=2\/i=3\/i=4\/i=5 by omega) with rfl|rfl|rfl|rfl|rfl|rfl
     all_goals (simp only[yC,yD,yN] at ho;subst ho;simp only[zJ,yC,yD,yO,Option.bind,Act.put,yE,yM,yJ] at hK ⊢;clear hi)
     ·exact J2 _
     ·exact J132 _
     ·exact J2 _
     ·exact J2 _
     ·have e2:vs 2=_:=hd 2 (by kernel_rfl)
      have e3:vs 3=_:=hd 3 (by kernel_rfl);rw[e2,e3] at hK ⊢;clear hd;go_wp2_with (go_at_call 64;refine(HA.out _ (HK7'.out.zC HR)).mono ?_;rintro e W1 ⟨rfl,g1⟩)
      exact hK _ _ g1 rfl
     ·have e4:vs 4=_:=hd 4 (by kernel_rfl)
      rw[e4] at hK ⊢;exact J47 _
    ·intro vs W hR hF
     have HR:Keeps zA w7 W:=((yB zA w7).drew).zC hR;have e1:vs 1=_:=hF 1 (by decide);obtain⟨g,e5,h5⟩:=(hF 5 (by decide):∃g,vs 5=.slice (some ⟨g,0,none⟩) 1 1/\zB W g (zCe p));simp only[zJ,yC,yD,yO,Option.bind,Act.put,yE,yM,yJ,yZ,yU];rw[e1,e5];clear hF e1 e5;generalize vs 0=y0;generalize vs 2=y2;generalize vs 3=y3;generalize vs 4=y4;have H5:=yA h5;have HRK:=yA HR;have hl8:k+1<=8:=by omega
     clear h5 HR hR HA;go_wp2_with (at_builtin;refine zI _ (by rfl) _ _ 32 (by rfl) 0 138 j0 _ 2 16 Tryz.underlying32 hj0 hy0 hy1 hy2 rfl (by decide) (.slice a4 k q4) k (zEC m k) (by rfl) (zD HM3.out HRK.out (λ_ _ h=>h)) (.slice (some ⟨g,0,none⟩) 1 1) 1 (zCe p) (by rfl) (xE H5.out) rfl (by simp[zCe,Value.oneCell']) (by unfold maxLen;omega) (by omega) (yF _) ?_;intro a4' q4' w8 hout;have HO:=yA hout;have HK8:Hid (Keeps (λq=>(Value.slice a4 k q4).ownBlock=some q) w7 w8):=hout.keeps (HRK.out.mono (λ_ _ h=>h.elim)) (λq e _=>e);have HR8:Hid (zB w8 z [c1,c2,.slice a3' (k+1) q3',.slice a4 k q4]):=HM1.out.keeps HK8.out (λe=>by have h1:=hS.out.new4 z e;have h2:=LZ.out;omega);have zr8:=HR8.out.cell (k:=3) (v:=.slice a4 k q4) rfl;have zf8:=HR8.out.free (k:=3) (by simp);clear hout)
     refine⟨⟨k+1,a3',q3',a4',q4',by omega,by go_num,?_⟩,by simp[intOf];omega⟩
     have hB:B2<=W.heap.size:=by have h1:=HK7.out.size;have h2:=HRK.out.size;have h3:=HB2.out;omega
     have hn4:∀kb,(Value.slice a4' (k+1) q4').ownBlock=some kb->B2<=kb:=λkb e=>by
      rcases HO.out.2.2 kb e with h1|h1
      ·exact hS.out.new4 kb h1
      ·omega
     have hzz:∀(v:Value)(q:Nat),(∀kb,v.ownBlock=some kb->B2<=kb)->v.ownBlock=some q->¬(q=z):=λv q h e e'=>by have h1:=h q e;have h2:=LZ.out;omega
     refine⟨HR8.out.set 3 (by simp) _,?_,?_,HNZ3.out,hn4,λkb e e'=>?_,(HK7.out.trans HK8.out (λq _ e=>.inr (hS.out.new4 q e))).setCell (p:=⟨z,3,none⟩) (λ_=>.inl rfl) _⟩
     ·exact zD (zD HM2.out HK8.out (λq e e'=>HNE.out q e e')) (Keeps.setCell (S:=λq=>q=z) (p:=⟨z,3,none⟩) (yB _ _) (λ_=>rfl) _) (λq e=>hzz _ q HNZ3.out e)
     ·rw[HP.out]
      exact zD HO.out.1 (Keeps.setCell (S:=λq=>q=z) (p:=⟨z,3,none⟩) (yB _ _) (λ_=>rfl) _) (λq e=>hzz _ q hn4 e)
     ·rcases HO.out.2.2 kb e' with h1|h1
      ·exact HNE.out kb e h1
      ·have h2:=zM HM2.out e
       have h3:=HRK.out.size;omega
   ·have hkn:k=n:=by omega
    subst hkn;clear hlt k3';have hK:Keeps zA w wr:=HKS.out.trans hS.out.keep (λq hq e=>by exact J210 _);have HK:=yA hK;have hY:zB wr w.heap.size [zCB,zCB,zCB,zCB]:=HY0.out.keeps hS.out.keep (λe=>by have h1:=HY0.out.lt (by simp);have h2:=HB2.out;have h3:=H3.out;rcases e with e|e <;> omega);have HY1:=yA hY;have y0:=hY.cell (k:=0) (v:=zCB) rfl;have y1:=hY.cell (k:=1) (v:=zCB) rfl;have y2:=hY.cell (k:=2) (v:=zCB) rfl;have y3:=hY.cell (k:=3) (v:=zCB) rfl;have g0:=hY.free (k:=0) (by decide);have g1:=hY.free (k:=1) (by decide);have g2:=hY.free (k:=2) (by decide);have g3:=hY.free (k:=3) (by decide);have hz:=hS.out.row;have x0:=hz.cell (k:=0) (v:=c1) rfl;have x1:=hz.cell (k:=1) (v:=c2) rfl;have x2:=hz.cell (k:=2) (v:=.slice a3 k q3) rfl;have x3:=hz.cell (k:=3) (v:=.slice a4 k q4) rfl;have HFF1:Hid (zAV wr (w.heap.size+1) c1 xs.length (ints xs)):=HF1.out.zF8 hS.out.keep (λg hn hr hlt e=>by have h2:=HB2.out;rcases e with e|e;exact HAP.out g xs hr hn e;omega) (by simp[ints]);have HFF2:Hid (zAV wr (w.heap.size+1) c2 ys.length (ints ys)):=HF2.out.zF8 hS.out.keep (λg hn hr hlt e=>by have h2:=HB2.out;rcases e with e|e;exact HAP.out g ys hr hn e;omega) (by simp[ints]);have hB:w.heap.size+1<=B2:=by have h1:=HY0.out.lt (by simp);have h2:=HB2.out;omega
    have HFF3:Hid (zAV wr (w.heap.size+1) (.slice a3 k q3) k (ints (zIl m k))):=zAV.of hS.out.own3 (λkb e=>by have:=hS.out.new3 kb e;omega);have HFF4:Hid (zAV wr (w.heap.size+1) (.slice a4 k q4) k (zEC m k)):=zAV.of hS.out.own4 (λkb e=>by have:=hS.out.new4 kb e;omega);rw[HCE1.out] at x0 HFF1;rw[HCE2.out] at x1 HFF2;clear hY hK hz hB HF1 HF2 hS;go_wp2_with fail
    have hrow:zB ((((wr.setCell ⟨w.heap.size,0,none⟩ (.slice a1 xs.length xs.length)).setCell ⟨w.heap.size,1,none⟩ (.slice a2 ys.length ys.length)).setCell ⟨w.heap.size,2,none⟩ (.slice a3 k q3)).setCell ⟨w.heap.size,3,none⟩ (.slice a4 k q4)) w.heap.size [.slice a1 xs.length xs.length,.slice a2 ys.length ys.length,.slice a3 k q3,.slice a4 k q4]:=(((HY1.out.set 0 (by simp) _).set 1 (by simp) _).set 2 (by simp) _).set 3 (by simp) _
    have hks:Keeps (λq=>q=w.heap.size) wr ((((wr.setCell ⟨w.heap.size,0,none⟩ (.slice a1 xs.length xs.length)).setCell ⟨w.heap.size,1,none⟩ (.slice a2 ys.length ys.length)).setCell ⟨w.heap.size,2,none⟩ (.slice a3 k q3)).setCell ⟨w.heap.size,3,none⟩ (.slice a4 k q4)):=
     ((((yB (λq=>q=w.heap.size) wr).setCell (p:=⟨w.heap.size,0,none⟩) (λ_=>rfl) _).setCell (p:=⟨w.heap.size,1,none⟩) (λ_=>rfl) _).setCell (p:=⟨w.heap.size,2,none⟩) (λ_=>rfl) _).setCell (p:=⟨w.heap.size,3,none⟩) (λ_=>rfl) _
    generalize (((wr.setCell ⟨w.heap.size,0,none⟩ (.slice a1 xs.length xs.length)).setCell ⟨w.heap.size,1,none⟩ (.slice a2 ys.length ys.length)).setCell ⟨w.heap.size,2,none⟩ (.slice a3 k q3)).setCell ⟨w.heap.size,3,none⟩ (.slice a4 k q4)=wE at hrow hks ⊢;have hfr:∀(v:Value)(n:Nat)(cs:List Value),zAV wr (w.heap.size+1) v n cs->zAV wE w.heap.size v n cs:=λv n cs h=>(h.keeps hks (λq hq e=>by have e':q=w.heap.size:=e;omega)).mono (Nat.le_succ _)
    refine xK (v:=.agg #[.slice a1 xs.length xs.length,.slice a2 ys.length ys.length,.slice a3 k q3,.slice a4 k q4]) (by simp[results,Tryz.results30,go_sem,hrow.cell (k:=0) rfl,hrow.cell (k:=1) rfl,hrow.cell (k:=2) rfl,hrow.cell (k:=3) rfl]) rfl ?_
    have e1:=HX.out;have e2:=HY.out;have e3:=HN.out;subst e1 e2;rw[e3] at HFF3 HFF4 ⊢;exact⟨a1,a2,_,_,rfl,HK.out.trans hks (λq hq e=>by have e':q=w.heap.size:=e;omega),hfr _ _ _ HFF1.out,hfr _ _ _ HFF2.out,hfr _ _ _ HFF3.out,hfr _ _ _ HFF4.out⟩
