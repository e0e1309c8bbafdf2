/- Layer L: texts joined. -/
import Derived.Test.YtfokdllgnblamaaGreatDoorL29
set_option linter.all false
set_option maxHeartbeats 8000000
set_option maxRecDepth 8000
namespace Go.Proofs.YtfokdllgnblamaaGreatDoor
open Go.RowKit
abbrev xT:=@ze.get_some
theorem J77 (P:Prop) (h:P:=by
 obtain ⟨g,e,h1,h2⟩:=h;exact ⟨g,e,zF h1 hk (fun _ _ h=>h),h2⟩):P:=h
theorem zGx.at {w:World} {F:Nat -> Prop} {f:zx} {cs:List Value} (h:zGx w F f cs):∃ (ad:Option Addr) (ac at_:Nat),cs=[.slice ad f.all.length ac, .int .i64 at_, .int .i64 f.left] /\ zAR w F f.all ad /\ f.rest=f.all.drop at_ /\ at_ <= f.all.length /\ Ac.zY f.all <= 1000:=h
theorem zC.zFl {w:World} {g:Nat} {a b c d e f:Value} (r:zC w g [a,b,c,d,e,f]):∀ W,Keeps zA w W -> W.cell? ⟨g,0,none⟩=some a /\ W.cell? ⟨g,1,none⟩=some b /\ W.cell? ⟨g,2,none⟩=some c /\ W.cell? ⟨g,3,none⟩=some d /\ W.cell? ⟨g,4,none⟩=some e /\ W.cell? ⟨g,5,none⟩=some f:=fun W q =>
 have r':=r.keeps q (fun h=>h);⟨r'.cell (k:=0) rfl,r'.cell (k:=1) rfl,r'.cell (k:=2) rfl,r'.cell (k:=3) rfl,r'.cell (k:=4) rfl,r'.cell (k:=5) rfl⟩
theorem zKC (n:Nat):(madeCells (Value.int .i64 0).cells (n*1)).toList=ints (List.replicate n 0):=by
 rcases uT n with rfl | h
 ·simp [madeCells,ints]
 ·apply List.ext_getElem?
  intro k
  simp only [madeCells,ints,Array.toList_map,Array.toList_range,uO,List.map_replicate,uE,Nat.mul_one];by_cases hk:k < n
  ·simp [hk,Value.cells,Nat.mod_one]
  ·simp [hk]
def zFD (w W:World) (n:Nat) (v:Value):Prop:=∃ g,v=.slice (some ⟨g,0,none⟩) n n /\ W.ownsRow 0 3 1 (.slice (some ⟨g,0,none⟩) n n) n (ints (List.replicate n 0)) /\ w.heap.size <= g
def zE8 (w W:World) (pv:Value) (v:Value):Prop:=∃ g,v=.slice (some ⟨g,0,none⟩) 1 1 /\ W.ownsRow 0 103 1 (.slice (some ⟨g,0,none⟩) 1 1) 1 [pv] /\ w.heap.size <= g
theorem zFD.keeps {w W W':World} {n:Nat} {v:Value} (h:zFD w W n v) (hk:Keeps zA W W'):zFD w W' n v:=by
 exact J77 _
theorem zE8.keeps {w W W':World} {pv v:Value} (h:zE8 w W pv v) (hk:Keeps zA W W'):zE8 w W' pv v:=by
 exact J77 _
theorem zN1 {R:zA0 zx} {sz:Nat} {ty:TypeId} (L:zAN R sz) {w W:World} {T:zS} {F:Nat -> Prop} {id g i n g1 g2:Nat} {H:List HTh} {zL:List WTh} {f:zx} {cs:List Value} (st:Int) (h:zAc R sz ty w T F id g H zL) (hi:i < zL.length) (hk:Keeps zA w W)
 (o1:W.ownsRow 0 3 1 (.slice (some ⟨g1,0,none⟩) n n) n (ints (List.replicate n 0))) (l1:w.heap.size <= g1) (o2:W.ownsRow 0 ty sz (.slice (some ⟨g2,0,none⟩) 1 1) 1 cs) (l2:w.heap.size <= g2) (hg:0 < n -> g1 ≠ g2) (hR:R W F f cs) :
 zAu R sz ty w T F id g i zL ⟨st,List.replicate n 0,[f]⟩ (((W.setCell ⟨g,i*3,none⟩ (.int .i64 st)).setCell ⟨g,i*3+1,none⟩ (.slice (some ⟨g1,0,none⟩) n n)).setCell ⟨g,i*3+2,none⟩ (.slice (some ⟨g2,0,none⟩) 1 1)):=by
 have hgl:g < w.heap.size:=h.sep.ok g _ h.tag;have h1:=h.sep.free l1;have h2:=h.sep.free l2;have lt1:g1 < W.heap.size:=zM o1 rfl;have lt2:g2 < W.heap.size:=zM o2 rfl;have hH:∃ a,H[i]?=some a:=⟨_,yJ (by rw [h.len];exact hi)⟩
 obtain ⟨a,ha⟩:=hH;have hil:i < H.length:=by rw [h.len];exact hi
 have r0:=h.row.keeps hk (fun h=>h);have r1:=zED r0 ha 0 (by decide) (.int .i64 st) ⟨st,a.rv,a.fv⟩ rfl;have r2:=zED r1 (yX hil) 1 (by decide) (.slice (some ⟨g1,0,none⟩) n n) ⟨st, .slice (some ⟨g1,0,none⟩) n n,a.fv⟩ rfl;rw [vS] at r2;have r3:=zED r2 (yX hil) 2 (by decide) (.slice (some ⟨g2,0,none⟩) 1 1) ⟨st, .slice (some ⟨g1,0,none⟩) n n, .slice (some ⟨g2,0,none⟩) 1 1⟩ rfl;rw [vS] at r3
 have hkg:Keeps (fun k=>k=g) W (((W.setCell ⟨g,i*3,none⟩ (.int .i64 st)).setCell ⟨g,i*3+1,none⟩ (.slice (some ⟨g1,0,none⟩) n n)).setCell ⟨g,i*3+2,none⟩ (.slice (some ⟨g2,0,none⟩) 1 1)) :=
  (((yB (fun k=>k=g) W).setCell (p:=⟨g,i*3,none⟩) (fun _=>rfl) _).setCell (p:=⟨g,i*3+1,none⟩) (fun _=>rfl) _).setCell (p:=⟨g,i*3+2,none⟩) (fun _=>rfl) _
 have r3':zC (((W.setCell ⟨g,i*3,none⟩ (.int .i64 st)).setCell ⟨g,i*3+1,none⟩ (.slice (some ⟨g1,0,none⟩) n n)).setCell ⟨g,i*3+2,none⟩ (.slice (some ⟨g2,0,none⟩) 1 1)) g _:=r3;generalize (((W.setCell ⟨g,i*3,none⟩ (.int .i64 st)).setCell ⟨g,i*3+1,none⟩ (.slice (some ⟨g1,0,none⟩) n n)).setCell ⟨g,i*3+2,none⟩ (.slice (some ⟨g2,0,none⟩) 1 1))=w' at hkg r3' ⊢;have hkw:Keeps (fun k=>k=g) w w':=(hk.mono (fun _ _ h=>h.elim)).trans hkg (fun _ _ h=>h)
 have hT:∃ T',zAQ T T' id w /\ (0 < n -> T' g1=some (id, .regs i)) /\ T' g2=some (id, .fs i) /\ zFL w' T' F:=by
  have hw':W.heap.size <= w'.heap.size:=hkg.size;rcases uT n with e | e
  ·exact ⟨zCn T id (.fs i) g2,zCa (.inr ⟨h2.1,l2⟩),fun q=>absurd e (by omega),zCt _ _ _ _,(h.sep.keeps hkw).tag (by omega) h2.2⟩
  ·have hne:=hg e
   have e2:zCn T id (.regs i) g1 g2=none:=by unfold zCn;rw [if_neg (fun q=>hne q.symm)];exact h2.1
   refine ⟨zCn (zCn T id (.regs i) g1) id (.fs i) g2,(zCa (.inr ⟨h1.1,l1⟩)).trans (zCa (.inr ⟨e2,l2⟩)) (yV _),fun _=>?_,zCt _ _ _ _,((h.sep.keeps hkw).tag (by omega) h1.2).tag (by omega) h2.2⟩
   unfold zCn;rw [if_neg hne,if_pos rfl]
 obtain ⟨T',hx,t1,t2,hsep⟩:=hT;have ng1:¬ g1=g:=by omega
 have ng2:¬ g2=g:=by omega
 have o1':=zF o1 hkg (fun q e1 e2=>by have e3:g1=q:=(J213 _);exact ng1 (e3.trans e2));have o2':=zF o2 hkg (fun q e1 e2=>by have e3:g2=q:=(J213 _);exact ng2 (e3.trans e2));have hF:∀ k,F k -> ¬ k=g:=fun k hk e=>by have:=h.sep.sep k hk;rw [e,h.tag] at this;cases this
 have hI:zBN w' T' id (.regs i) (.slice (some ⟨g1,0,none⟩) n n) (List.replicate n 0) :=
  ⟨some ⟨g1,0,none⟩,n,by rw [uJ],fun hn=>⟨g1,rfl,t1 (by rcases uT n with e | e;exact absurd (by rw [e];rfl) hn;exact e),uG o1'⟩⟩
 have hf:zBd R sz ty w' T' F id i (.slice (some ⟨g2,0,none⟩) 1 1) [f] :=
  ⟨[cs],rfl,by simpa using o2',fun kb e=>by have e3:g2=kb:=(J214 _);rw [<- e3];exact t2,⟨_,_,rfl⟩,fun j y ds e1 e2=>by
   have hz:j=0:=by have:=(yO.1 e1).1;simpa using this
   subst hz;simp only [yC,yP] at e1 e2;subst e1 e2;exact L.keeps hR hkg hF⟩
 have hkk:Keeps (fun k=>k=g \/ T k=some (id, .regs i) \/ T k=some (id, .fs i)) w w':=hkw.mono (fun k _ e=>.inl e);exact ⟨T',_,zAc.upd (i:=i) (t':=⟨st,List.replicate n 0,[f]⟩) L h hx hsep hkk (a':=⟨st, .slice (some ⟨g1,0,none⟩) n n, .slice (some ⟨g2,0,none⟩) 1 1⟩) r3' rfl hI hf,hx,zGH h hkk⟩
theorem zGW {w:World} {T:zS} {F:Nat -> Prop} {id b i:Nat} {u:Un} {p:zBE} {m:ze} {H:List HTh} (h:MaP zi 1 103 zBW w T F id b u p m H) (hr:zV u=true) (hm:m.ok u) (hi:i < m.zL.length) :
 Calls Tryz.prog 34 #[.pointer (some ⟨b,0,none⟩), .int .i64 i] w fun e w'=>e=.returned (.tuple #[]) /\ zAh zi 1 103 zBW w T F id b u p (zER u m i) w':=by
 obtain ⟨bd,hbd,_,hbe⟩:=hm.th hi;have hi2:=(yO.1 hbd).1;have hbd':u.threads[i]=bd:=(yO.1 hbd).2;have hmay:=(zAt hr).2.2.2.2.2 bd (List.mem_of_getElem? hbd);obtain ⟨gu,ou,v,hut,hFu,c0,c1,hacs⟩:=h.bds i hi2;rw [hbd'] at c0 hacs;obtain ⟨va,vc,rfl⟩:=hacs.slice;have HM:=yA h;have y:=zC.zFl (show zC w b [_,_,_,_,_,_] from h.row);have d:∀ W,Keeps zA w W -> W.cell? ⟨gu,ou+i*2,none⟩=some (.int .i64 bd.regs) /\ W.cell? ⟨gu,ou+i*2+1,none⟩=some (.slice va bd.acts.length vc):=fun W q=>⟨q.cell (fun h=>h) c0,q.cell (fun h=>h) c1⟩
 obtain ⟨ca,cn,cc,mu,ut,utc,cad,ccap,oad,ocap,gt,ct⟩:=p;dsimp only at y hut
 subst hut
 have fr:∀ j,j < 3 -> ∀ W,Keeps zA w W -> W.frozen? ⟨gt,i*3+j,none⟩=false:=fun j hj=>zK (zCw h.zL.row (by rw [h.zL.len];exact hi) j hj) (by
  have hl:i < H.length:=by rw [h.zL.len];exact hi
  obtain ⟨t1,t2,t3⟩:=zAF h.zL.row (yJ hl);rcases (show j=0 \/ j=1 \/ j=2 by omega) with rfl | rfl | rfl
  ·exact ⟨_,t1⟩
  ·exact ⟨_,t2⟩
  ·exact ⟨_,t3⟩)
 have f0:∀ W,Keeps zA w W -> W.frozen? ⟨gt,i*3,none⟩=false:=fr 0 (by decide)
 have f1:=fr 1 (by decide);have f2:=fr 2 (by decide);obtain ⟨rv0,fv0,hH0,_⟩:=h.zL.get (xT hi);have th:=zAF h.zL.row hH0;have s0:=zT th.1;have s1:=zT th.2.1;have s2:=zT th.2.2;clear th hH0;obtain ⟨rg,hrg⟩:∃ n:Nat,bd.regs=n:=⟨bd.regs.toNat,by have:=hmay.1;omega⟩
 have hrb:rg <= 8:=by have:=hmay.2.1;omega
 have HB:Hid (u.body i=bd /\ Ac.zAC u bd.regs bd.acts=true /\ Ac.hL bd.acts <= 500 /\ bd.regs=(rg:Int) /\ zAs w F bd.acts (.slice va bd.acts.length vc) /\ zV u=true /\ m.ok u /\ i < m.zL.length):=⟨hbe,hmay.2.2.1,hmay.2.2.2,hrg,hacs,hr,hm,hi⟩;rw [hrg] at d;have i0:(0:Int) <= i:=by omega
 have i1:(i:Int) < (m.zL.length:Int):=by omega
 have i2:(i:Int) < (u.threads.length:Int):=by omega
 have r0:(0:Int) <= rg:=by omega
 obtain ⟨k0,hk0,hz0,hz1,hz2⟩:=info_parts zBs;obtain ⟨nt,hnt⟩:∃ z,z=u.threads.length:=⟨_,rfl⟩
 obtain ⟨nm,hnm⟩:∃ z,z=m.zL.length:=⟨_,rfl⟩
 obtain ⟨na,hna⟩:∃ z,z=bd.acts.length:=⟨_,rfl⟩
 rw [<- hnt] at y i2;rw [<- hnm] at y i1;rw [<- hna] at d;have HN:Hid (nt=u.threads.length /\ nm=m.zL.length /\ na=bd.acts.length):=⟨hnt,hnm,hna⟩;clear h hm hi hbd hbd' hi2 hFu c0 c1 hmay hacs fr hrg hbe hnt hnm hna hr;have k0w:=zI w;go_enter Tryz.func34,Tryz.ntmps34
 go_upto_region 0 with fail
 refine zP 29 (by kernel_rfl) (by kernel_rfl) (Keeps zA) (yB zA) (fun a b c h h'=>xD h h') (zAp [some (.pointer (some ⟨b,0,none⟩)),some (.pointer (some ⟨b,0,none⟩)),some (.pointer (some ⟨b,5,none⟩)),some (.slice (some ⟨gt,0,none⟩) nm ct),some (.int .i64 (i:Int)),some (.pointer (some ⟨b,0,none⟩)),some (.pointer (some ⟨b,0,none⟩)),some (.pointer (some ⟨b,0,none⟩)),some (.pointer (some ⟨b,2,none⟩)),some (.slice (some ⟨gu,ou,none⟩) nt utc),some (.int .i64 (i:Int)),some (.pointer (some ⟨gu,ou+i*2,none⟩)),some (.pointer (some ⟨gu,ou+i*2,none⟩)),some (.int .i64 (rg:Int)),none,some (.pointer (some ⟨b,0,none⟩)),some (.pointer (some ⟨b,0,none⟩)),some (.pointer (some ⟨b,0,none⟩)),some (.pointer (some ⟨b,2,none⟩)),some (.slice (some ⟨gu,ou,none⟩) nt utc),some (.int .i64 (i:Int)),some (.pointer (some ⟨gu,ou+i*2,none⟩)),some (.pointer (some ⟨gu,ou+i*2+1,none⟩)),some (.slice va na vc),some (.agg #[.slice va na vc]),some (.iface 135 (.agg #[.slice va na vc])),none,none,some (.pointer (some ⟨gt,i*3,none⟩))] (fun j v W=>if j=14 then zFD w W rg v else if j=26 then zE8 w W (.iface 135 (.agg #[.slice va na vc])) v else ∃ v1 v2,v=.agg #[.int .i64 2,v1,v2] /\ zFD w W rg v1 /\ zE8 w W (.iface 135 (.agg #[.slice va na vc])) v2)) (vO (fun j v W W' h hk=>by
  revert h
  split
  ·exact fun h=>h.keeps hk
  ·split
   ·exact fun h=>h.keeps hk
   ·rintro ⟨v1,v2,e,h1,h2⟩;exact ⟨v1,v2,e,h1.keeps hk,h2.keeps hk⟩)) ?_ ?_
 ·intro q oo hq ho vs W Q' hR hd hK
  have HRW:Keeps zA w W:=((zI w).drew).zB hR;rcases (show q=0 \/ q=1 \/ q=2 \/ q=3 \/ q=4 \/ q=5 \/ q=6 \/ q=7 \/ q=8 \/ q=9 \/ q=10 \/ q=11 \/ q=12 \/ q=13 \/ q=14 \/ q=15 \/ q=16 \/ q=17 \/ q=18 \/ q=19 \/ q=20 \/ q=21 \/ q=22 \/ q=23 \/ q=24 \/ q=25 \/ q=26 \/ q=27 \/ q=28 by omega) with rfl | rfl | rfl | rfl | rfl | rfl | rfl | rfl | rfl | rfl | rfl | rfl | rfl | rfl | rfl | rfl | rfl | rfl | rfl | rfl | rfl | rfl | rfl | rfl | rfl | rfl | rfl | rfl | rfl
  all_goals (simp only [yC,yD,yP] at ho;subst ho;simp only [zJ,yC,yD,yN,Option.bind,Act.put,yE,yK,yF] at hK ⊢;clear hq)
  all_goals try ((try (have e:vs 0=_:=hd 0 (by decide +kernel);rw [e] at hK ⊢;clear e));(try (have e:vs 1=_:=hd 1 (by decide +kernel);rw [e] at hK ⊢;clear e));(try (have e:vs 2=_:=hd 2 (by decide +kernel);rw [e] at hK ⊢;clear e));(try (have e:vs 3=_:=hd 3 (by decide +kernel);rw [e] at hK ⊢;clear e));(try (have e:vs 4=_:=hd 4 (by decide +kernel);rw [e] at hK ⊢;clear e));(try (have e:vs 5=_:=hd 5 (by decide +kernel);rw [e] at hK ⊢;clear e));(try (have e:vs 6=_:=hd 6 (by decide +kernel);rw [e] at hK ⊢;clear e));(try (have e:vs 7=_:=hd 7 (by decide +kernel);rw [e] at hK ⊢;clear e));(try (have e:vs 8=_:=hd 8 (by decide +kernel);rw [e] at hK ⊢;clear e));(try (have e:vs 9=_:=hd 9 (by decide +kernel);rw [e] at hK ⊢;clear e));(try (have e:vs 10=_:=hd 10 (by decide +kernel);rw [e] at hK ⊢;clear e));(try (have e:vs 11=_:=hd 11 (by decide +kernel);rw [e] at hK ⊢;clear e));(try (have e:vs 12=_:=hd 12 (by decide +kernel);rw [e] at hK ⊢;clear e));(try (have e:vs 13=_:=hd 13 (by decide +kernel);rw [e] at hK ⊢;clear e));(try (have e:vs 15=_:=hd 15 (by decide +kernel);rw [e] at hK ⊢;clear e));(try (have e:vs 16=_:=hd 16 (by decide +kernel);rw [e] at hK ⊢;clear e));(try (have e:vs 17=_:=hd 17 (by decide +kernel);rw [e] at hK ⊢;clear e));(try (have e:vs 18=_:=hd 18 (by decide +kernel);rw [e] at hK ⊢;clear e));(try (have e:vs 19=_:=hd 19 (by decide +kernel);rw [e] at hK ⊢;clear e));(try (have e:vs 20=_:=hd 20 (by decide +kernel);rw [e] at hK ⊢;clear e));(try (have e:vs 21=_:=hd 21 (by decide +kernel);rw [e] at hK ⊢;clear e));(try (have e:vs 22=_:=hd 22 (by decide +kernel);rw [e] at hK ⊢;clear e));(try (have e:vs 23=_:=hd 23 (by decide +kernel);rw [e] at hK ⊢;clear e));(try (have e:vs 24=_:=hd 24 (by decide +kernel);rw [e] at hK ⊢;clear e));(try (have e:vs 25=_:=hd 25 (by decide +kernel);rw [e] at hK ⊢;clear e));(try (have e:vs 28=_:=hd 28 (by decide +kernel);rw [e] at hK ⊢;clear e));clear hd;go_wp2_with (fail);first | exact hK _ _ (yB _ _) rfl)
  ·have e:vs 13=_:=hd 13 (by kernel_rfl)
   rw [e] at hK ⊢;clear hd e;refine wpList_make_full _ rfl _ _ _ rfl 0 3 k0 _ 1 xO hk0 hz0 hz1 _ _ _ _ rg (by rfl) (by rfl) rfl rfl (by rw [hz2];omega) (by unfold maxLen;omega) (yH _) ?_
   intro w1 hown hgr
   rw [zKC] at hown;exact hK _ _ ((yB _ _).grown hgr (fun k e=>by cases e)) (by show zFD _ _ _ _;exact ⟨_,rfl,hown,HRW.size⟩)
  ·have e:vs 25=_:=hd 25 (by kernel_rfl)
   rw [e] at hK ⊢;clear hd e;go_wp2_with fail
   exact hK _ _ ((yB _ _).alloc _) (by show zE8 _ _ _ _;exact ⟨_,rfl,World.ownsRow_lit W #[.iface 135 (.agg #[.slice va na vc])] 1 (yH _) (by unfold maxLen;omega) rfl,HRW.size⟩)
  ·have h14:zFD w W rg (vs 14):=hd 14 (by kernel_rfl)
   have h26:zE8 w W (.iface 135 (.agg #[.slice va na vc])) (vs 26):=hd 26 (by kernel_rfl);obtain ⟨g1,e1,o1⟩:=h14;obtain ⟨g2,e2,o2⟩:=h26;rw [e1,e2] at hK ⊢;have O1:=yA o1;have O2:=yA o2;clear hd e1 e2 o1 o2;go_wp2_with fail
   exact hK _ _ (yB _ _) (by show ∃ v1 v2,_;exact ⟨_,_,rfl,⟨g1,rfl,O1.out⟩,g2,rfl,O2.out⟩)
 ·intro vs W hR hFF
  have HRW:Keeps zA w W:=((zI w).drew).zB hR;obtain ⟨v1,v2,e27,⟨g1,rfl,o1,l1⟩,g2,rfl,o2,l2⟩:=(hFF 27 (by decide):∃ v1 v2,vs 27=.agg #[.int .i64 2,v1,v2] /\ zFD w W rg v1 /\ zE8 w W (.iface 135 (.agg #[.slice va na vc])) v2);have e28:vs 28=_:=hFF 28 (by decide);simp only [zJ,yC,yD,yN,Option.bind,Act.put,yE,yK,yF,yT,yQ];rw [e27,e28];clear hFF e27 e28 y d
  have hne:0 < rg -> g1 ≠ g2:=fun hn e=>by
   subst e;have q1:=(uG o1).cell (zAA (List.replicate rg 0) 0 (by simpa using hn));have q2:=(uG o2).cell (k:=0) rfl;rw [q1] at q2;cases q2
  have HO:Hid (W.ownsRow 0 3 1 (.slice (some ⟨g1,0,none⟩) rg rg) rg (ints (List.replicate rg 0)) /\ w.heap.size <= g1 /\ W.ownsRow 0 103 1 (.slice (some ⟨g2,0,none⟩) 1 1) 1 [.iface 135 (.agg #[.slice va na vc])] /\ w.heap.size <= g2 /\ (0 < rg -> g1 ≠ g2)):=⟨o1,l1,o2,l2,hne⟩;clear o1 o2 l1 l2 hne;go_upto_region 1 with fail
  have HW:=yA (MaP.went (i:=i) zAD HM.out (zN1 (i:=i) (n:=rg) (f:=⟨bd.acts,bd.acts,1⟩) zR 2 HM.out.zL HB.out.2.2.2.2.2.2.2 HRW HO.out.1 HO.out.2.1 HO.out.2.2.1 HO.out.2.2.2.1 HO.out.2.2.2.2 ⟨_,rfl, .inl ⟨yV _,_,rfl,by rw [HN.out.2.2];exact HB.out.2.2.2.2.1.keeps HRW (fun _ _ h=>h)⟩⟩));generalize ((W.setCell ⟨gt,i*3,none⟩ (.int .i64 2)).setCell ⟨gt,i*3+1,none⟩ (.slice (some ⟨g1,0,none⟩) rg rg)).setCell ⟨gt,i*3+2,none⟩ (.slice (some ⟨g2,0,none⟩) 1 1)=w7 at HW ⊢;obtain ⟨T7,H7,M7,x7,k7⟩:=HW.out;have hl7:(m.zAj i ⟨2,List.replicate rg 0,[⟨bd.acts,bd.acts,1⟩]⟩).zL.length=m.zL.length:=ze.zBn _ _ _;have y:=zC.zFl (show zC w7 b [_,_,_,_,_,_] from M7.row);dsimp only at y
  rw [hl7,<- HN.out.2.1] at y
  have HL:=yA (zGb (n:=bd.regs) (t:=⟨2,List.replicate rg 0,[⟨bd.acts,bd.acts,1⟩]⟩) M7.zL (i:=i) (yX HB.out.2.2.2.2.2.2.2) (u:=u) ⟨fun f hf=>by
   obtain rfl:f=⟨bd.acts,bd.acts,1⟩:=by simpa using hf
   exact ⟨HB.out.2.1,HB.out.2.1,by show 1 <= 1000;omega⟩,zBl (fs:=[]) ⟨yH _,fun j f e=>by cases e⟩ (yH _) (by have:=HB.out.2.2.1;show Ac.hL bd.acts+0 <= _;omega) (by have:=HB.out.2.2.1;show Ac.hL bd.acts+0 <= _;omega)⟩ (by rw [HB.out.2.2.2.1];simp))
  have HX:Hid (zAQ T T7 id w /\ Keeps (zAk T id) w w7):=⟨x7,k7⟩;have HM7:=yA M7;clear M7 x7 k7 hl7 f0 f1 f2 s0 s1 s2 HW;have k7:=zI w7;go_wp2_with (go_at_call 52;refine HL.out.mono ?_;rintro e w8 ⟨rfl,g8⟩;have HW8:=yA g8;clear g8)
  go_returns
  refine ⟨rfl,?_⟩
  have hw:=zAh.trans HX.out.1 HX.out.2 (MaP.went (i:=i) zAD HM7.out HW8.out)
  have e:(m.zAj i ⟨2,List.replicate rg 0,[⟨bd.acts,bd.acts,1⟩]⟩).zAj i (WTh.local ⟨2,List.replicate rg 0,[⟨bd.acts,bd.acts,1⟩]⟩)=zER u m i:=by
   unfold zER zC9 ze.zAj;rw [HB.out.1,vS,HB.out.2.2.2.1];rfl
  rwa [e] at hw
def zFX (gs:Nat -> Nat × Nat) (i:Nat) (p:Nat × Nat) (j:Nat):Nat × Nat:=if j=i then p else gs j
def zET (md:Region.Mode) (l:List Oper) (n:Nat) (D:Nat -> List Nat):Bool :=
 (List.range n).all fun i=>((l[i]?).map fun o=>(D i).all fun a=>decide (a=i) || o.after.any fun e=>Region.binds md e&&(D e.on).contains a).getD true
def zLd (md:Region.Mode) (ops:Array Oper) (n p:Nat):Bool :=
 (List.range n).all fun i=>decide (i=p) || (List.range (n+1)).any fun j=>decide (i < j)&&decide (j ≠ p)&&Region.waitsFor md ops j i
theorem zHg {md:Region.Mode} {ops:Array Oper} {n p:Nat} {listed:Array Bool} (hs:zLd md ops n p=true) (hc:Region.chainB md ops n=true) (hn:n < ops.size) (inv:HeadInv md ops n listed) :
 ∀ (d i:Nat),n - i=d -> i ≠ p -> i < n -> listed.getD i true=false -> ∀ t,n <= t -> t ∉ Region.ready md ops listed:=by
 intro d
 induction d using Nat.strongRecOn with
 | _ d ih =>
   intro i hd hip hi hun t ht hr
   obtain ⟨_,ot,hot,hall⟩:=vA.1 hr;have htlt:t < ops.size:=(Array.getElem?_eq_some_iff.1 hot).1;by_cases htn:t=n
   ·exact J20 _
   ·exact J23 _
def zEV (n g p:Nat):Array Bool:=(zk n g).setIfInBounds p false
def zH5 (md:Region.Mode) (l:List Oper) (n p:Nat):Bool :=
 decide (n < l.length)&&zLd md l.toArray n p&&Region.chainB md l.toArray n&&zJS md l n&&((List.range (n+1)).all fun m=>zB4 l m)&&Region.seqB md l.toArray (l.length - n) n (zk n (l.length - n)) &&
  (decide (n <= p) || (Region.free md l.toArray (zEV n (l.length - n) p) p&&(Region.ready md l.toArray (zEV n (l.length - n) p)).contains p&&Region.noSelect l.toArray))
section
variable {P:Program}
theorem zNO {id:Nat} {Q:Exit -> Act -> World -> Prop} {a:Act} {w:World} {l:List Oper} (n p:Nat) (hm:P.follows .mixedOrders=true) (hB:zH5 .any l n p=true) (D:Nat -> List Nat) (hDB:zET .any l n D=true)
 (F:Nat -> Value -> (Nat -> Nat × Nat) -> World -> Prop) (hst:∀ j v gs W W',F j v gs W -> Keeps zA W W' -> F j v gs W') (hloc:∀ j v gs gs' W,(∀ a,a ∈ D j -> gs a=gs' a) -> F j v gs W -> F j v gs' W)
 (hp:p < n -> ∃ op,l[p]?=some op /\ (∀ c a w v,Q (.panic c) (a.put op.dst v) w -> Q (.panic c) a w) /\ ∀ (vs:Nat -> Value) gs W,Keeps zA w.drew W -> (∀ j,j < n -> j ≠ p -> F j (vs j) gs W) -> ∃ v,Yields P l.toArray op v (zJ l vs a n) /\ F p v (zFX gs p (W.heap.size,W.heap.size)) W)
 (hstep:∀ i o,i < n -> l[i]?=some o -> ∀ (vs:Nat -> Value) (gs:Nat -> Nat × Nat) (W:World) (Q':Exit -> Act -> World -> Prop),Keeps zA w.drew W -> (∀ e,e ∈ o.after.toList -> Region.binds .any e=true -> F e.on (vs e.on) gs W) →
   (∀ v W',Keeps zA W W' -> F i v (zFX gs i (W.heap.size,W'.heap.size)) W' -> Q' .normal ((zJ l vs a n).put o.dst v) W') -> wpList P l.toArray Q' [o] (zJ l vs a n) W)
 (htail:∀ (vs:Nat -> Value) (gs:Nat -> Nat × Nat) (W:World),Keeps zA w.drew W -> (∀ j,j < n -> F j (vs j) gs W) -> (∀ j,j < n -> (gs j).2 <= W.heap.size) -> (∀ i j,i < n -> j < n -> i ≠ j -> (gs i).2 <= (gs j).1 \/ (gs j).2 <= (gs i).1) -> wpList P l.toArray Q (l.drop n) (zJ l vs a n) W):(Code.region id l.toArray true).wp P Q a w:=by
 simp only [zH5,yR,vX,yS,yZ,xR] at hB;obtain ⟨⟨⟨⟨⟨⟨hn,hs⟩,hc⟩,hback⟩,hdis⟩,hseq⟩,hpB⟩:=hB
 have key:∀ (f:Nat) (listed:Array Bool) (vs:Nat -> Value) (gs:Nat -> Nat × Nat) (W:World),HeadInv .any l.toArray n listed -> zBh listed n=f -> Keeps zA w.drew W -> (∀ j,j < n -> listed.getD j true=true -> F j (vs j) gs W) -> (∀ j,j < n -> listed.getD j true=true -> ∀ a,a ∈ D j -> listed.getD a true=true) -> (∀ j,j < n -> listed.getD j true=true -> (gs j).2 <= W.heap.size) -> (∀ i j,i < n -> j < n -> i ≠ j -> listed.getD i true=true -> listed.getD j true=true -> (gs i).2 <= (gs j).1 \/ (gs j).2 <= (gs i).1) →
  wpAny P .any l.toArray Q (f+(l.length - n)) listed (zJ l vs a n) W:=by
  intro f
  induction f with
  | zero =>
    intro listed vs gs W inv hcnt hR hF hL hG hD
    have hall:=zB0 n hcnt
    have he:listed=zk n (l.length - n):=by
     exact J9 _
    have h1:=htail vs gs W hR (fun j hj=>hF j hj (hall j hj)) (fun j hj=>hG j hj (hall j hj)) (fun i j hi hj hne=>hD i j hi hj hne (hall i hi) (hall j hj));have hdl:(l.drop n).length=l.length - n:=by simp
    have:=wpAny_of_seq (P:=P) (md:=.any) (ops:=l.toArray) (Q':=Q) (l.drop n) n listed (zJ l vs a n) W (fun j=>by simp [kS]) (by rw [hdl,he];exact hseq) h1
    rw [hdl] at this;rw [xC];exact this
  | succ f ih =>
    intro listed vs gs W inv hcnt hR hF hL hG hD
    have hle:∀ {i o},i < n -> l[i]?=some o -> ∀ e,e ∈ o.after -> Region.binds .any e=true -> e.on < i:=fun {i o} hin ho' e he hb=>by
     have h1:=yZ.1 hback i (xR.2 hin);simp only [ho',vB,kM,uV] at h1;have h2:=h1 e he;simpa only [hb,Bool.not_true,Bool.false_or,yS] using h2
    have adv:∀ i o v W',i ∈ Region.ready .any l.toArray listed -> i < n -> l[i]?=some o -> Keeps zA W W' -> F i v (zFX gs i (W.heap.size,W'.heap.size)) W' -> wpAny P .any l.toArray Q (f+(l.length - n)) (listed.setIfInBounds i true) ((zJ l vs a n).put o.dst v) W':=by
     intro i o v W' hi hin ho' hR' hF'
     have hun:=(vA.1 hi).1;obtain ⟨_,o2,ho2,hafter⟩:=vA.1 hi;have ho2':l[i]?=some o2:=by simpa using ho2
     have e2:o2=o:=vZ (ho2'.symm.trans ho');subst e2;have hd:o2.dst=(l[i]?).bind (·.dst):=by rw [ho'];rfl
     rw [hd,zBK v n vs hin (hdis n (by omega)) (fun m hm=>hdis m (by omega))];refine ih _ _ (zFX gs i (W.heap.size,W'.heap.size)) _ (inv.set hi hin) ?_ (hR.trans hR' (fun _ _ h=>h.elim)) (fun j hj hl=>?_) (fun j hj hl b hb=>?_) (fun j hj hl=>?_) (fun i1 j1 hi1 hj1 hne hl1 hl2=>?_)
     ·exact J61 _
     ·exact J43 _
     ·by_cases eb:b=i
      ·subst eb
       by_cases hs2:b < listed.size
       ·simp [hs2]
       ·simp [hs2]
      ·rw [uF true (fun h=>eb h.symm)]
       by_cases e:j=i
       ·subst e
        have h1:=yZ.1 hDB j (xR.2 hin);simp only [ho',vB,kM,yZ] at h1;have h2:=h1 b hb;simp only [vX,yS,Array.any_eq_true',yR,List.contains_iff_mem] at h2;rcases h2 with h2 | ⟨e,he,hbe,h3⟩
        ·exact absurd h2 eb
        ·have h4:=hafter e he hbe
         have h6:=hle hin ho' e he hbe;exact J100 _
       ·rw [uF true (fun h=>e h.symm)] at hl
        exact hL j hj hl b hb
     ·by_cases e:j=i
      ·subst e;unfold zFX;rw [if_pos rfl];exact yV _
      ·rw [uF true (fun h=>e h.symm)] at hl
       unfold zFX;rw [if_neg e];exact yU (hG j hj hl) hR'.size
     ·by_cases e1:i1=i
      ·subst e1
       have e2:¬ j1=i1:=fun h=>hne h.symm
       rw [uF true hne] at hl2;unfold zFX;rw [if_pos rfl,if_neg e2];exact .inr (hG j1 hj1 hl2)
      ·rw [uF true (fun h=>e1 h.symm)] at hl1
       by_cases e2:j1=i
       ·subst e2
        unfold zFX;rw [if_pos rfl,if_neg e1];exact .inl (hG i1 hi1 hl1)
       ·rw [uF true (fun h=>e2 h.symm)] at hl2
        unfold zFX;rw [if_neg e1,if_neg e2];exact hD i1 j1 hi1 hj1 hne hl1 hl2
    rw [show f+1+(l.length - n)=(f+(l.length - n))+1 by omega];by_cases hall:∀ i,i < n -> i ≠ p -> listed.getD i true=true
    ·obtain ⟨i,hi1,hup,_⟩:=zBI n (by omega:zBh listed n ≠ 0)
     have ei:i=p:=uN fun ei=>by rw [hall i hi1 ei] at hup;cases hup
     subst ei;rcases hpB with hpB | ⟨⟨hfr,hrd⟩,hsel⟩
     ·omega
     have he:listed=zEV n (l.length - n) i:=by
      apply Array.ext
      ·rw [inv.size];simp [zEV,zk];omega
      ·intro k h1 h2
       unfold zEV;have hkl:k < l.toArray.size:=by rw [<- inv.size];exact h1
       by_cases hkp:k=i
       ·exact J63 _
       ·have hpk:¬ i=k:=fun e=>hkp e.symm
        by_cases hk:k < n
        ·have:=hall k hk hkp
         simp only [Array.getD,h1,dif_pos] at this;rw [show listed[k]=true from this];exact J59 _
        ·have:=inv.tail k (by omega) hkl
         simp only [Array.getD,h1,dif_pos] at this;rw [show listed[k]=false from this];exact J59 _
     have hrp:i ∈ Region.ready .any l.toArray listed:=by rw [he];simpa using hrd
     obtain ⟨op,hop,hQ,hy⟩:=hp hi1;obtain ⟨v,hyv,hFp⟩:=hy vs gs W hR (fun j hj hjp=>hF j hj (hall j hj hjp));have hop':l.toArray[i]?=some op:=by simpa using hop
     exact wpAny_first (P:=P) (ops:=l.toArray) (Q:=Q) (md:=.any) hop' (Region.noSelect_spec hsel) (fun c a w=>hQ c a w v) (f+(l.length - n)) listed (zJ l vs a n) W (by rw [he];exact Region.free_spec hop' hfr) hrp hyv (adv i op v W hrp hi1 hop (yB _ _) hFp)
    obtain ⟨iu,hiu,hiup,hiuu⟩:∃ i,i < n /\ i ≠ p /\ listed.getD i true=false:=uN fun hno=>hall fun i hi hip=>by
     exact J112 _
    obtain ⟨i0,hi0,hu0,hb0⟩:=zBI n (by omega:zBh listed n ≠ 0)
    have hr0:i0 ∈ Region.ready .any l.toArray listed:=by
     have hil:i0 < l.length:=by omega
     rw [vA];refine ⟨hu0,l[i0],by simp [hil],fun e he hb=>?_⟩
     have h3:=hb0 e.on (hle hi0 (yJ hil) e he hb);have h2:=hle hi0 (yJ hil) e he hb;have h4:e.on < listed.size:=by rw [inv.size];simp;omega
     simpa [h4] using h3
    refine ⟨fun h0=>by exact J180 _,fun i hi=>?_⟩
    have hin:i < n:=by
     rcases xL i n with h | h
     ·exact h
     ·exact absurd hi (zHg hs hc (by simpa using hn) inv _ iu rfl hiup hiu hiuu i h)
    obtain ⟨_,o,ho,hafter⟩:=vA.1 hi;have ho':l[i]?=some o:=by simpa using ho
    refine zBu ho (hstep i o hin ho' vs gs W _ hR (fun e he hb=>?_) (fun v W' hR' hF'=>adv i o v W' hi hin ho' hR' hF'))
    have he:e ∈ o.after:=by simpa using he
    have h1:=hafter e he hb;have h2:=hle hin ho' e he hb;have h4:e.on < listed.size:=by rw [inv.size];simp;omega
    exact hF e.on (by omega) (by simpa [h4] using h1)
 refine wp_region_any hm ?_
 have inv0:HeadInv .any l.toArray n (Array.replicate l.toArray.size false) :=
  ⟨by simp,fun j oj _ hl=>(J183 _),fun t _ ht=>getD_in (by simpa using ht) (vL _ _)⟩
 have hz:∀ m,m < l.length -> (Array.replicate l.toArray.size false).getD m true=false:=fun m hm=>by simp [hm]
 have hcn:∀ m,m <= l.length -> zBh (Array.replicate l.toArray.size false) m=m:=by
  intro m
  induction m with
  | zero=>intro _;rfl
  | succ m ih =>
    intro hm
    unfold zBh;rw [ih (by omega),hz m (by omega)];simp
 have hno:∀ j,j < n -> (Array.replicate l.toArray.size false).getD j true=true -> False:=fun j hj hl=>by
  rw [hz j (by omega)] at hl;cases hl
 have:=key n (Array.replicate l.toArray.size false) (slotsOf l a) (fun _=>(0,0)) w.drew inv0 (hcn n (by omega)) (yB _ _) (fun j hj hl=>(hno j hj hl).elim) (fun j hj hl=>(hno j hj hl).elim) (fun j hj hl=>(hno j hj hl).elim) (fun i j hi hj _ hl _=>(hno i hi hl).elim)
 rw [zBk l a n,show n+(l.length - n)=l.toArray.size by simp;omega] at this;exact this
end
theorem tz {α:Type}:(∀ (a:α) l,(a :: l)[0]?=some a) /\ (∀ (a:α) l i,(a :: l)[i+1]?=l[i]?) /\ (∀ (a b:α) l,(a :: l).set 0 b=b :: l) /\ (∀ (a b:α) l i,(a :: l).set (i+1) b=a :: l.set i b) /\ (∀ (l:List α) i a,l.toArray.setIfInBounds i a=(l.set i a).toArray) ∧
 (∀ l:List α,l.toArray.toList=l) /\ (∀ (a:α) l i,(a :: l).drop (i+1)=l.drop i) /\ (∀ l:List α,l.drop 0=l):=by simp
abbrev Gh:=Nat -> Nat × Nat
def zCQ (L:List (Option Value)) (Sp:Nat -> Value -> Gh -> World -> Prop) (gs:Gh) (W:World) (j:Nat) (v:Value):Prop :=
 match L[j]? with
 | some (some u)=>v=u
 | _=>Sp j v gs W
def zDP (L:List (Option Value)) (Sp:Nat -> Value -> Gh -> World -> Prop) (vs:Nat -> Value) (gs:Gh) (W:World):List Edge -> Prop
 | []=>True
 | e :: es=>(match e.ground with
   | .textOnly _=>True
   | .gcOnly _=>True
   | _=>zCQ L Sp gs W e.on (vs e.on)) /\ zDP L Sp vs gs W es
def zFM (Sp:Nat -> Value -> Gh -> World -> Prop) (gs:Gh) (i:Nat) (W:World) (K:Value -> World -> Prop):Option Value -> Prop
 | some u=>∀ v W',Keeps zA W W' -> v=u -> K v W'
 | none=>∀ v W',Keeps zA W W' -> Sp i v (zFX gs i (W.heap.size,W'.heap.size)) W' -> K v W'
section
variable {P:Program}
def zIA (P:Program) (l:List Oper) (a:Act) (w:World) (n:Nat) (L:List (Option Value)) (Sp:Nat -> Value -> Gh -> World -> Prop):Nat -> List Oper -> List (Option Value) -> Prop
 | i,o :: os,x :: xs=>(∀ (vs:Nat -> Value) (gs:Gh) (W:World) (Q':Exit -> Act -> World -> Prop),Keeps zA w.drew W -> zDP L Sp vs gs W o.after.toList →
    zFM Sp gs i W (fun v W'=>Q' .normal ((zJ l vs a n).put o.dst v) W') x -> wpList P l.toArray Q' [o] (zJ l vs a n) W) /\ zIA P l a w n L Sp (i+1) os xs
 | _,_,_=>True
theorem zIA.get {l:List Oper} {a:Act} {w:World} {n:Nat} {L:List (Option Value)} {Sp:Nat -> Value -> Gh -> World -> Prop}:∀ (os:List Oper) (xs:List (Option Value)) (k:Nat),zIA P l a w n L Sp k os xs -> ∀ i o x,os[i]?=some o -> xs[i]?=some x →
 ∀ (vs:Nat -> Value) (gs:Gh) (W:World) (Q':Exit -> Act -> World -> Prop),Keeps zA w.drew W -> zDP L Sp vs gs W o.after.toList -> zFM Sp gs (k+i) W (fun v W'=>Q' .normal ((zJ l vs a n).put o.dst v) W') x -> wpList P l.toArray Q' [o] (zJ l vs a n) W
 | [],_,_,_,i,o,x,h,_=>by simp at h
 | _ :: _,[],_,_,i,o,x,_,h=>by simp at h
 | o' :: os,x' :: xs,k,hr,0,o,x,h1,h2=>by
   obtain rfl:o'=o:=by simpa using h1
   obtain rfl:x'=x:=by simpa using h2
   exact hr.1
 | o' :: os,x' :: xs,k,hr,i+1,o,x,h1,h2=>by
   have:=zIA.get os xs (k+1) hr.2 i o x (by simpa using h1) (by simpa using h2)
   rw [show k+(i+1)=k+1+i by omega];exact this
theorem zDP.of {L:List (Option Value)} {Sp:Nat -> Value -> Gh -> World -> Prop} {vs:Nat -> Value} {gs:Gh} {W:World}:∀ es:List Edge,(∀ e,e ∈ es -> Region.binds .any e=true -> zCQ L Sp gs W e.on (vs e.on)) -> zDP L Sp vs gs W es
 | [],_=>trivial
 | e :: es,h=>by
   refine ⟨?_,zDP.of es fun x hx=>h x (.tail _ hx)⟩
   have h0:=h e (.head _);unfold Region.binds at h0;split
   ·trivial
   ·trivial
   ·rename_i h1 h2
    refine h0 ?_
    split
    ·rename_i g hg;exact absurd hg (h1 _)
    ·rename_i g hg;exact absurd hg (h2 _)
    ·rfl
theorem zJM {id:Nat} {Q:Exit -> Act -> World -> Prop} {a:Act} {w:World} {l:List Oper} (n p:Nat) (D:Nat -> List Nat) (hm:P.follows .mixedOrders=true) (hB:zH5 .any l n p=true) (hDB:zET .any l n D=true) (L:List (Option Value)) (hL:L.length=n) (Sp:Nat -> Value -> Gh -> World -> Prop)
 (hst:∀ j v gs W W',Sp j v gs W -> Keeps zA W W' -> Sp j v gs W') (hloc:∀ j v gs gs' W,(∀ a,a ∈ D j -> gs a=gs' a) -> Sp j v gs W -> Sp j v gs' W)
 (hp:p < n -> ∃ op,l[p]?=some op /\ (∀ c a w v,Q (.panic c) (a.put op.dst v) w -> Q (.panic c) a w) /\ ∀ (vs:Nat -> Value) gs W,Keeps zA w.drew W -> (∀ j,j < n -> j ≠ p -> zCQ L Sp gs W j (vs j)) -> ∃ v,Yields P l.toArray op v (zJ l vs a n) /\ zCQ L Sp (zFX gs p (W.heap.size,W.heap.size)) W p v)
 (hrow:zIA P l a w n L Sp 0 l L)
 (htail:∀ (vs:Nat -> Value) (gs:Gh) (W:World),Keeps zA w.drew W -> (∀ j,j < n -> zCQ L Sp gs W j (vs j)) -> (∀ j,j < n -> (gs j).2 <= W.heap.size) -> (∀ i j,i < n -> j < n -> i ≠ j -> (gs i).2 <= (gs j).1 \/ (gs j).2 <= (gs i).1) -> wpList P l.toArray Q (l.drop n) (zJ l vs a n) W):(Code.region id l.toArray true).wp P Q a w:=by
 refine zNO n p hm hB D hDB (fun j v gs W=>zCQ L Sp gs W j v) (fun j v gs W W' h hk=>?_) (fun j v gs gs' W hg h=>?_) hp (fun i o hi ho vs gs W Q' hR hd hK=>?_) htail
 ·unfold zCQ at *
  split at h
  ·exact h
  ·exact hst _ _ _ _ _ h hk
 ·unfold zCQ at *
  split at h
  ·exact h
  ·exact hloc _ _ _ _ _ hg h
 ·have hx:L[i]?=some L[i]:=yJ (by omega)
  have h:=zIA.get l L 0 hrow i o _ ho hx vs gs W Q' hR (zDP.of _ hd);rw [xC] at h;refine h ?_
  revert hx
  generalize L[i]=x;intro hx
  cases x with
  | some u=>exact fun v W' hk e=>hK v W' hk (by unfold zCQ;rw [hx];exact e)
  | none=>exact fun v W' hk hs=>hK v W' hk (by unfold zCQ;rw [hx];exact hs)
end
theorem zFg {id:Nat} {Q:Exit -> Act -> World -> Prop} {a:Act} {w:World} {l:List Oper} (n:Nat) (hB:zH5 .any l n (n+1)=true) (L:List (Option Value)) (hL:L.length=n) (Sp:Nat -> Value -> World -> Prop)
 (hst:∀ j v W W',Sp j v W -> Keeps zA W W' -> Sp j v W') (hrow:zIA Tryz.prog l a w n L (fun j v _ W=>Sp j v W) 0 l L)
 (htail:∀ (vs:Nat -> Value) (W:World),Keeps zA w.drew W -> (∀ j,j < n -> zCQ L (fun j v _ W=>Sp j v W) (fun _=>(0,0)) W j (vs j)) -> wpList Tryz.prog l.toArray Q (l.drop n) (zJ l vs a n) W):(Code.region id l.toArray true).wp Tryz.prog Q a w:=by
 refine zJM n (n+1) (fun _=>[]) (by kernel_rfl) hB ?_ L hL _ (fun j v _ W W'=>hst j v W W') (fun _ _ _ _ _ _ h=>h) (fun h=>absurd h (by omega)) hrow (fun vs gs W hR hF _ _=>htail vs W hR hF)
 unfold zET;simp only [yZ];intro i _
 cases l[i]? <;> rfl
theorem zEX {id:Nat} {Q:Exit -> Act -> World -> Prop} {a:Act} {w:World} {l:List Oper} (n p:Nat) (hB:zH5 .any l n p=true) (L:List (Option Value)) (hL:L.length=n) (Sp:Nat -> Value -> World -> Prop)
 (hst:∀ j v W W',Sp j v W -> Keeps zA W W' -> Sp j v W') (op:Oper) (hop:l[p]?=some op) (hQ:∀ c a w v,Q (.panic c) (a.put op.dst v) w -> Q (.panic c) a w) (u:Value) (hu:L[p]?=some (some u))
 (hy:∀ (vs:Nat -> Value) W,(∀ j,j < n -> j ≠ p -> zCQ L (fun j v _ W=>Sp j v W) (fun _=>(0,0)) W j (vs j)) -> Yields Tryz.prog l.toArray op u (zJ l vs a n)) (hrow:zIA Tryz.prog l a w n L (fun j v _ W=>Sp j v W) 0 l L)
 (htail:∀ (vs:Nat -> Value) (W:World),Keeps zA w.drew W -> (∀ j,j < n -> zCQ L (fun j v _ W=>Sp j v W) (fun _=>(0,0)) W j (vs j)) -> wpList Tryz.prog l.toArray Q (l.drop n) (zJ l vs a n) W):(Code.region id l.toArray true).wp Tryz.prog Q a w:=by
 refine zJM n p (fun _=>[]) (by kernel_rfl) hB ?_ L hL _ (fun j v _ W W'=>hst j v W W') (fun _ _ _ _ _ _ h=>h) (fun _=>⟨op,hop,hQ,fun vs gs W _ h=>⟨u,hy vs W h,by unfold zCQ;rw [hu]⟩⟩) hrow (fun vs gs W hR hF _ _=>htail vs W hR hF)
 unfold zET;simp only [yZ];intro i _
 cases l[i]? <;> rfl
end Go.Proofs.YtfokdllgnblamaaGreatDoor
