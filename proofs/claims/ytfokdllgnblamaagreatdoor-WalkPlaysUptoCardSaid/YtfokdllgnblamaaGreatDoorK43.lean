/- Layer K: texts joined. -/
import Derived.Test.YtfokdllgnblamaaGreatDoorK42
set_option linter.all false
set_option maxHeartbeats 8000000
set_option maxRecDepth 8000
namespace Go.Proofs.YtfokdllgnblamaaGreatDoor
open Go.RowKit
theorem J208 (P:Prop) (h:P:=by simp [results,Tryz.results43,go_sem,R5.cell (k:=0) rfl,R5.cell (k:=1) rfl,R5.cell (k:=2) rfl,R5.cell (k:=3) rfl,R5.cell (k:=4) rfl,R5.cell (k:=5) rfl,R5.cell (k:=6) rfl,R5.cell (k:=7) rfl,R5.cell (k:=8) rfl,R5.cell (k:=9) rfl]):P:=h
theorem J227 (P:Prop) (h:P:=by simp [results,Tryz.results42,go_sem,R5.cell (k:=0) rfl,R5.cell (k:=1) rfl]):P:=h
abbrev RM (w:World) (T:zS) (F:Nat -> Prop) (id b:Nat) (u:Un) (p:zAn) (m:zm) (H:List HTh):Prop:=MaP zA8 3 138 zAk w T F id b u p m H
abbrev RW (w:World) (T:zS) (F:Nat -> Prop) (id b:Nat) (u:Un) (p:zAn) (m:zm) (w':World):Prop:=zAC zA8 3 138 zAk w T F id b u p m w'
def zHH (W:World) (g o:Nat) (a:Ac) (xa:Option Addr) (xc:Nat) (ta:Option Addr) (tc:Nat) (ea:Option Addr) (ec:Nat):Prop:=W.cell? ⟨g,o,none⟩=some (.int .i64 a.kind) /\ W.cell? ⟨g,o+1,none⟩=some (.int .i64 a.reg) /\ W.cell? ⟨g,o+2,none⟩=some (.int .i64 a.obj) /\ W.cell? ⟨g,o+3,none⟩=some (.int .i64 a.ex.kind) /\ W.cell? ⟨g,o+4,none⟩=some (.int .i64 a.ex.num) /\ W.cell? ⟨g,o+5,none⟩=some (.string a.ex.nm) /\ W.cell? ⟨g,o+6,none⟩=some (.slice xa a.ex.args.length xc) /\ W.cell? ⟨g,o+7,none⟩=some (.int .i64 a.count) /\ W.cell? ⟨g,o+8,none⟩=some (.slice ta a.thn.length tc) /\ W.cell? ⟨g,o+9,none⟩=some (.slice ea a.els.length ec)
theorem zAQ.cells {w:World} {F:Nat -> Prop} {l:List Ac} {ad:Option Addr} (h:zAQ w F l ad) {i:Nat} (hi:i < l.length):∃ g o xa xc ta tc ea ec,ad=some ⟨g,o,none⟩ /\ F g /\ (∀ W,Keeps zA w W -> zHH W g (o+i*10) l[i] xa xc ta tc ea ec) /\ zN w F l[i].ex.args xa /\ zAQ w F l[i].thn ta /\ zAQ w F l[i].els ea:=by
 obtain ⟨g,o,xa,xc,ta,tc,ea,ec,e,hg,c0,c1,c2,c3,c4,c5,c6,c7,c8,c9,h1,h2,h3⟩:=h.at hi;exact ⟨g,o,xa,xc,ta,tc,ea,ec,e,hg,fun W q=>⟨q.cell (fun h=>h) c0,q.cell (fun h=>h) c1,q.cell (fun h=>h) c2,q.cell (fun h=>h) c3,q.cell (fun h=>h) c4,q.cell (fun h=>h) c5,q.cell (fun h=>h) c6,q.cell (fun h=>h) c7,q.cell (fun h=>h) c8,q.cell (fun h=>h) c9⟩,h1,h2,h3⟩
section
variable {w w' W:World} {T:zS} {F:Nat -> Prop} {id b i:Nat} {u:Un} {p:zAn} {m:zm} {H:List HTh}
theorem zLp {R:zBA WFr} {sz:Nat} {ty:TypeId} (L:zAX R sz) {g n g1:Nat} {zM:List WTh} {t:WTh} (h:zAV R sz ty w T F id g H zM) (ht:zM[i]?=some t) (hk:Keeps zA w W)
 (o1:W.ownsRow 0 3 1 (.slice (some ⟨g1,0,none⟩) n n) n (ints (List.replicate n 0))) (l1:w.heap.size <= g1) :
 zAR R sz ty w T F id g i zM { t with regs:=List.replicate n 0 } (W.setCell ⟨g,i*3+1,none⟩ (.slice (some ⟨g1,0,none⟩) n n)):=by
 obtain ⟨rv,fv,hH,_,hfs⟩:=h.get ht;have hgl:g < w.heap.size:=h.sep.ok g _ h.tag;have h1:=h.sep.free l1;have lt1:g1 < W.heap.size:=zO o1 rfl;have r1:=zDK (h.row.keeps hk (fun h=>h)) hH 1 (by decide) (.slice (some ⟨g1,0,none⟩) n n) ⟨t.st, .slice (some ⟨g1,0,none⟩) n n,fv⟩ rfl;have hkg:Keeps (fun k=>k=g) W (W.setCell ⟨g,i*3+1,none⟩ (.slice (some ⟨g1,0,none⟩) n n)):=(yC (fun k=>k=g) W).setCell (p:=⟨g,i*3+1,none⟩) (fun _=>rfl) _;generalize W.setCell ⟨g,i*3+1,none⟩ (.slice (some ⟨g1,0,none⟩) n n)=w' at hkg r1 ⊢;have hkw:Keeps (fun k=>k=g) w w':=(hk.mono (fun _ _ h=>h.elim)).trans hkg (fun _ _ h=>h)
 have hT:∃ T',zAG T T' id w /\ (0 < n -> T' g1=some (id, .regs i)) /\ zFH w' T' F:=by
  have hw':W.heap.size <= w'.heap.size:=hkg.size;rcases vB n with e | e
  ·exact ⟨T,uW _ _ _,fun q=>absurd e (by omega),h.sep.keeps hkw⟩
  ·exact ⟨zCk T id (.regs i) g1,zCG (.inr ⟨h1.1,l1⟩),fun _=>zCZ _ _ _ _,(h.sep.keeps hkw).tag (by omega) h1.2⟩
 obtain ⟨T',hx,t1,hsep⟩:=hT;have o1':=zG o1 hkg (fun q e1 e2=>by have e3:g1=q:=(J222 _);have e4:q=g:=e2;omega);have hF:∀ k,F k -> ¬ k=g:=fun k hk e=>by exact J249 _
 have hI:zBQ w' T' id (.regs i) (.slice (some ⟨g1,0,none⟩) n n) (List.replicate n 0) :=
  ⟨some ⟨g1,0,none⟩,n,by rw [vL],fun hn=>⟨g1,rfl,t1 (J263 _),uC o1'⟩⟩
 have hf:zBV R sz ty w' T' F id i fv t.fs:=(zBV.keeps L hfs hkw (fun k e1 e2=>by have e2:k=g:=e2;rw [e2,h.tag] at e1;cases e1) hF).ext hx.1;have hkk:Keeps (fun k=>k=g \/ T k=some (id, .regs i) \/ T k=some (id, .fs i)) w w':=hkw.mono (fun k _ e=>.inl e);exact ⟨T',_,zAV.upd (i:=i) (t':={ t with regs:=List.replicate n 0 }) L h hx hsep hkk (a':=⟨t.st, .slice (some ⟨g1,0,none⟩) n n,fv⟩) r1 rfl hI hf,hx,zFA h hkk⟩
theorem MaP.thc {R:zBA WFr} {sz:Nat} {ty:TypeId} {B:zCf} (h:MaP R sz ty B w T F id b u p m H) (hi:i < m.zM.length):∃ rv fv,H[i]?=some ⟨(m.get i).st,rv,fv⟩ /\ (∀ W,Keeps zA w W -> W.cell? ⟨p.gt,i*3,none⟩=some (.int .i64 (m.get i).st) /\ W.cell? ⟨p.gt,i*3+1,none⟩=some rv /\ W.cell? ⟨p.gt,i*3+2,none⟩=some fv) ∧
 (∀ j,j < 3 -> ∀ W,Keeps zA w W -> W.frozen? ⟨p.gt,i*3+j,none⟩=false):=by
 obtain ⟨rv,fv,hH,_⟩:=h.zM.get (xL hi);have th:=zAA h.zM.row hH;refine ⟨rv,fv,hH,fun W q=>⟨q.cell (fun h=>h) th.1,q.cell (fun h=>h) th.2.1,q.cell (fun h=>h) th.2.2⟩,fun j hj=>zK (zCt h.zM.row (by rw [h.zM.len];exact hi) j hj) ?_⟩
 rcases (show j=0 \/ j=1 \/ j=2 by omega) with rfl | rfl | rfl
 ·exact ⟨_,th.1⟩
 ·exact ⟨_,th.2.1⟩
 ·exact ⟨_,th.2.2⟩
theorem zGB (h:RM w T F id b u p m H) (hr:zX u=true) (hm:m.ok u) (hi:i < m.zM.length) (h0:(m.get i).fs=[]) :
 Calls Tryz.prog 29 #[.pointer (some ⟨b,0,none⟩), .int .i64 i] w fun e w'=>e=.returned (.tuple #[]) /\ RW w T F id b u p (zEP u m i) w':=by
 obtain ⟨bd,hbd,_,hbe⟩:=hm.th hi;have hi2:=(yP.1 hbd).1;have hbd':u.threads[i]=bd:=(yP.1 hbd).2;have hmem:=vD hbd;have hmay:=(zAq hr).2.2.2.2.2 bd hmem;obtain ⟨gu,ou,va,vc,hut,hFu,c0,c1,hacs⟩:=h.bds i hi2;rw [hbd'] at c0 c1 hacs;obtain ⟨rv,fv,hH,s0,fr⟩:=h.thc hi;obtain ⟨rg,hrg⟩:∃ n:Nat,bd.regs=n:=⟨bd.regs.toNat,by have:=hmay.1;omega⟩
 have hrb:rg <= 8:=by have:=hmay.2.1;omega
 have HB:Hid (u.body i=bd /\ Ac.zAM u bd.regs bd.acts=true /\ Ac.hL bd.acts <= 500 /\ bd.regs=(rg:Int) /\ zAQ w F bd.acts va /\ Ac.zW bd.acts <= 500 /\ m.ok u /\ i < m.zM.length /\ (m.get i).fs=[]):=⟨hbe,hmay.2.2.1,hmay.2.2.2,hrg,hacs,zJM hr hmem,hm,hi,h0⟩;have HM:=yB h;have hst:=zHQ zR (t:=m.get i) h.zM hH ((h.zM.each i _ _ hH (xL hi)).2.1) ((h.zM.each i _ _ hH (xL hi)).2.2) 2;have HW1:=yB (h.went (i:=i) zo hst);have y:=zC.zDi (show zC w b [_,_,_,_,_,_] from h.row);rw [hrg] at c0;have d:=zV c0;have d2:=zV c1;obtain ⟨ca,cn,cc,mu,ut,utc,cad,ccap,oad,ocap,gt,ct⟩:=p;dsimp only at y hut s0 fr hst HW1
 subst hut;have f0:∀ W,Keeps zA w W -> W.frozen? ⟨gt,i*3,none⟩=false:=fr 0 (by decide)
 have i0:(0:Int) <= i:=by omega
 have i1:(i:Int) < (m.zM.length:Int):=by omega
 have i2:(i:Int) < (u.threads.length:Int):=by omega
 have r0:(0:Int) <= rg:=by omega
 obtain ⟨nt,hnt⟩:=eX u.threads.length;obtain ⟨nm,hnm⟩:=eX m.zM.length;obtain ⟨na,hna⟩:=eX bd.acts.length;rw [<- hnt] at y i2;rw [<- hnm] at y i1;rw [<- hna] at d2;have HN:Hid (nt=u.threads.length /\ nm=m.zM.length /\ na=bd.acts.length):=⟨hnt,hnm,hna⟩;have k0w:=zH w;clear h hm hi hbd hbd' hi2 c0 c1 hmay hacs fr hrg hbe hnt hnm hna hr hmem h0 hst;go_enter Tryz.func29,Tryz.ntmps29
 go_upto_region 2 with fail
 generalize w.setCell ⟨gt,i*3,none⟩ (.int .i64 2)=w1 at HW1 ⊢;obtain ⟨T1,H1,M1,x1,q1⟩:=HW1.out;have HX1:Hid (zAG T T1 id w /\ Keeps (zAh T id) w w1):=⟨x1,q1⟩;have hF:∀ k,F k -> ¬ zAh T id k:=HM.out.free
 have d':=zV (q1.cell (p:=⟨gu,ou+i*2,none⟩) (hF gu hFu) (d w (zH w)));have d2':=zV (q1.cell (p:=⟨gu,ou+i*2+1,none⟩) (hF gu hFu) (d2 w (zH w)));have y:=zC.zDi (show zC w1 b [_,_,_,_,_,_] from M1.row);rw [zm.zBC,<- HN.out.1,<- HN.out.2.1] at y;dsimp only at y
 have HMI:Hid (i < (m.zAT i { m.get i with st:=2 }).zM.length):=by
  show i < _
  rw [zm.zBC];exact HB.out.2.2.2.2.2.2.2.1
 obtain ⟨rv1,fv1,hH1,s1,fr1⟩:=M1.thc HMI.out;have f1:=fr1 1 (by decide);have s1:=fun W q=>(s1 W q).2.1
 dsimp only at f1 s1
 have HM1:=yB M1;have k1:=zH w1;obtain ⟨k0,hk0,hz0,hz1,hz2⟩:=info_parts zA3;clear M1 x1 q1 hH1 fr1 d d2 s0 f0 k0w hH HM HW1;go_upto_region 3 with (refine wpList_make_full _ rfl _ _ _ rfl 0 3 k0 _ 1 xG hk0 hz0 hz1 _ _ _ _ rg (by rfl) (by rfl) rfl rfl (by rw [hz2];omega) (by unfold maxLen;omega) (yJ _) ?_;intro w2 hown hgr;rw [zGi] at hown;have HOW:=yB hown;have k2:Keeps zA w1 w2:=(yC _ _).grown hgr (fun k e=>by cases e);clear hown hgr)
 have hrw:=zLp (i:=i) zR HM1.out.zM (xL HMI.out) k2 HOW.out (yV _);have HW2:=yB (HM1.out.went (i:=i) zo hrw)
 have em:(m.zAT i { m.get i with st:=2 }).zAT i { (m.zAT i { m.get i with st:=2 }).get i with regs:=List.replicate rg 0 }=m.zAT i ⟨2,List.replicate rg 0,[]⟩:=by
  rw [zm.zDm _ _ _ HB.out.2.2.2.2.2.2.2.1];dsimp only
  rw [HB.out.2.2.2.2.2.2.2.2];unfold zm.zAT;rw [yn]
 rw [em] at HW2;dsimp only at HW2
 generalize w2.setCell ⟨gt,i*3+1,none⟩ (.slice (some ⟨w1.heap.size,0,none⟩) rg rg)=w3 at HW2 ⊢;obtain ⟨T3,H3,M3,x3,q3⟩:=HW2.out;have HX3:Hid (zAG T1 T3 id w1 /\ Keeps (zAh T1 id) w1 w3):=⟨x3,q3⟩;have hF1:∀ k,F k -> ¬ zAh T1 id k:=HM1.out.free
 have d:=zV (q3.cell (p:=⟨gu,ou+i*2+1,none⟩) (hF1 gu hFu) (d2' w1 (zH w1)));have y:=zC.zDi (show zC w3 b [_,_,_,_,_,_] from M3.row);rw [zm.zBC,<- HN.out.1,<- HN.out.2.1] at y;dsimp only at y
 have hac:zAQ w3 F bd.acts va:=(HB.out.2.2.2.2.1.keeps HX1.out.2 (fun k e=>hF k e)).keeps q3 (fun k e=>hF1 k e);have HP:=zEW (t:=⟨2,List.replicate rg 0,[]⟩) M3.zM (i:=i) (xC HB.out.2.2.2.2.2.2.2.1) (Nat.succ_pos _) (lc:=vc) hac (by have:=HB.out.2.2.2.2.2.1;omega) 1 (by decide);rw [<- HN.out.2.2] at HP;have HPP:=yB HP;have HM3:=yB M3;have k3:=zH w3;clear M3 x3 q3 hac HP d' d2' f1 s1 k1 k2 HOW hrw em;go_upto_region 4 with (go_at_call 64;refine HPP.out.mono ?_;rintro e w4 ⟨rfl,g4⟩;have HW4:=yB (HM3.out.went (i:=i) zo g4);clear g4)
 obtain ⟨T4,H4,M4,x4,q4⟩:=HW4.out;have HX4:Hid (zAG T3 T4 id w3 /\ Keeps (zAh T3 id) w3 w4):=⟨x4,q4⟩
 have e4:(m.zAT i ⟨2,List.replicate rg 0,[]⟩).zAT i ⟨2,List.replicate rg 0,[]++[⟨bd.acts,bd.acts,(1:Int).toNat⟩]⟩=m.zAT i ⟨2,List.replicate rg 0,[⟨bd.acts,bd.acts,1⟩]⟩:=by
  unfold zm.zAT;rw [yn];rfl
 rw [e4] at M4;have HM4:=yB M4
 have HL:=yB (zFx (n:=bd.regs) (t:=⟨2,List.replicate rg 0,[⟨bd.acts,bd.acts,1⟩]⟩) M4.zM (i:=i) (xC HB.out.2.2.2.2.2.2.2.1) (u:=u) ⟨fun f hf=>by
  obtain rfl:f=⟨bd.acts,bd.acts,1⟩:=by simpa using hf
  exact ⟨HB.out.2.1,HB.out.2.1,by show 1 <= 1000;omega⟩,zBY (fs:=[]) ⟨yJ _,fun j f e=>by cases e⟩ (yJ _) (J225 _) (J225 _)⟩ (by rw [HB.out.2.2.2.1];simp))
 have k4:=zH w4;clear M4 x4 q4 e4 y d k3;go_wp2_with (go_at_call 46;refine HL.out.mono ?_;rintro e w8 ⟨rfl,g8⟩;have HW8:=yB (HM4.out.went (i:=i) zo g8);clear g8)
 go_returns
 refine ⟨rfl,?_⟩
 have hw:=kZ HX1.out.1 HX1.out.2 (kZ HX3.out.1 HX3.out.2 (kZ HX4.out.1 HX4.out.2 HW8.out))
 have e:(m.zAT i ⟨2,List.replicate rg 0,[⟨bd.acts,bd.acts,1⟩]⟩).zAT i (WTh.local ⟨2,List.replicate rg 0,[⟨bd.acts,bd.acts,1⟩]⟩)=zEP u m i:=by
  unfold zEP zHU zm.zAT;rw [HB.out.1,yn,HB.out.2.2.2.1];rfl
 rwa [e] at hw
end
def zCz (w:World) (g:Nat):Nat -> List Value -> World
 | _,[]=>w
 | k,v :: r=>zCz (w.setCell ⟨g,k,none⟩ v) g (k+1) r
theorem zDt {g:Nat}:(vs:List Value) -> (k:Nat) -> (w:World) -> (cs:List Value) -> zC w g cs -> k+vs.length=cs.length -> zC (zCz w g k vs) g (cs.take k++vs)
 | [],k,w,cs,h,e=>by
   have e':cs.take k=cs:=List.take_of_length_le (by simp at e;omega);rw [e',List.append_nil];exact h
 | v :: r,k,w,cs,h,e=>by
   have hk:k < cs.length:=by simp at e;omega
   have:=zDt r (k+1) (w.setCell ⟨g,k,none⟩ v) (cs.set k v) (h.set k hk v) (by simp at e ⊢;omega)
   have e2:(cs.set k v).take (k+1)++r=cs.take k++v :: r:=by
    rw [List.take_add_one,List.take_set_of_le (yV k)];simp [hk]
   rw [e2] at this;exact this
theorem zB9 (g:Nat):(vs:List Value) -> (k:Nat) -> (w:World) -> Keeps (fun q=>q=g) w (zCz w g k vs)
 | [],_,w=>yC _ _
 | v :: r,k,w=>((yC (fun q=>q=g) w).setCell (p:=⟨g,k,none⟩) (fun _=>rfl) v).trans (zB9 g r (k+1) _) (fun _ _ h=>h)
theorem zBE {w w2:World} {g:Nat} {cs:List Value} (vs:List Value) (h:zC w2 g cs) (hl:vs.length=cs.length) (hk:Keeps zA w w2) (hg:w.heap.size <= g):zC (zCz w2 g 0 vs) g vs /\ Keeps zA w (zCz w2 g 0 vs) :=
 ⟨by simpa using zDt vs 0 w2 cs h (by omega),hk.trans (zB9 g vs 0 w2) (fun q hq e=>absurd hq (by have e':q=g:=e;omega))⟩
theorem zx {w:World} {g:Nat} {cs:List Value} (r:zC w g cs):∀ j,j < cs.length -> ∀ W,Keeps zA w W -> W.frozen? ⟨g,j,none⟩=false:=fun j hj=>zK (r.free (k:=j) hj) ⟨_,r.cell (yQ hj)⟩
theorem zJ9 (w:World) (k:Int) (hk:2 <= k /\ k <= 9):Calls Tryz.prog 75 #[.int .i64 k] w fun e w'=>e=.returned (.int .i64 (k - 1)) /\ w=w':=by
 rcases (show k=2 \/ k=3 \/ k=4 \/ k=5 \/ k=6 \/ k=7 \/ k=8 \/ k=9 by omega) with rfl | rfl | rfl | rfl | rfl | rfl | rfl | rfl
 all_goals (
  go_enter Tryz.func75,Tryz.ntmps75
  go_wp2_with fail
  go_ret
  exact ⟨rfl,rfl⟩)
abbrev zMS:Value:=.agg #[.int .i64 0, .int .i64 0, .int .i64 0, .int .i64 0, .int .i64 0, .string { data:=#[] }, .slice none 0 0, .int .i64 0, .slice none 0 0, .slice none 0 0]
theorem zKb {w:World} {g i cap:Nat} {ad:Option Addr} (c2:∀ W,Keeps zA w W -> W.cell? ⟨g,i*3+2,none⟩=some (.slice ad 0 cap)) :
 Calls Tryz.prog 43 #[.pointer (some ⟨g,i*3,none⟩)] w fun e w'=>e=.returned (.tuple #[zMS, .bool false]) /\ Keeps zA w w':=by
 obtain ⟨b4,w4,e3,e4,R4,K4,_⟩:=newRow w [.int .i64 0, .int .i64 0, .int .i64 0, .int .i64 0, .int .i64 0, .string { data:=#[] }, .slice none 0 0, .int .i64 0, .slice none 0 0, .slice none 0 0] 68;have fr:=zx R4;have HR4:=yB R4;have HB4:Hid (w.heap.size <= b4 /\ Keeps zA w w4):=⟨by exact J201 _,K4⟩;replace c2:=fun W (q:Keeps zA w4 W)=>c2 W (K4.zB q)
 have y:=R4.zAI;have k4:=zH w4;have f0:=fr 0 (by decide);have f1:=fr 1 (by decide);have f2:=fr 2 (by decide);have f3:=fr 3 (by decide);have f4:=fr 4 (by decide);have f5:=fr 5 (by decide);have f6:=fr 6 (by decide);have f7:=fr 7 (by decide);have f8:=fr 8 (by decide);have f9:=fr 9 (by decide);clear fr R4 K4;go_enter Tryz.func43,Tryz.ntmps43
 go_upto_region 1 with fail
 try rw [e3]
 try rw [e4]
 clear e3 e4;go_wp2_with fail
 obtain ⟨R5,K5⟩:=zBE (w:=w) [.int .i64 0, .int .i64 0, .int .i64 0, .int .i64 0, .int .i64 0, .string { data:=#[] }, .slice none 0 0, .int .i64 0, .slice none 0 0, .slice none 0 0] HR4.out rfl HB4.out.2 HB4.out.1;simp only [zCz,yZ,Nat.reduceAdd] at R5 K5;refine xA (v:=.tuple #[.agg #[.int .i64 0, .int .i64 0, .int .i64 0, .int .i64 0, .int .i64 0, .string { data:=#[] }, .slice none 0 0, .int .i64 0, .slice none 0 0, .slice none 0 0], .bool false]) (J208 _) rfl ⟨rfl,K5⟩
theorem zMF {w:World} {g i m cap gp ga oa na ac at_ left:Nat} {a:Ac} {xa ta ea:Option Addr} {xc tc ec:Nat} (hm:m < 1000000) (hat:at_ < na)
 (c2:∀ W,Keeps zA w W -> W.cell? ⟨g,i*3+2,none⟩=some (.slice (some ⟨gp,0,none⟩) (m+1) cap))
 (p:∀ W,Keeps zA w W -> W.cell? ⟨gp,m*3,none⟩=some (.slice (some ⟨ga,oa,none⟩) na ac) /\ W.cell? ⟨gp,m*3+1,none⟩=some (.int .i64 at_) /\ W.cell? ⟨gp,m*3+2,none⟩=some (.int .i64 left))
 (d:∀ W,Keeps zA w W -> zHH W ga (oa+at_*10) a xa xc ta tc ea ec) :
 Calls Tryz.prog 43 #[.pointer (some ⟨g,i*3,none⟩)] w fun e w'=>e=.returned (.tuple #[.agg #[.int .i64 a.kind, .int .i64 a.reg, .int .i64 a.obj, .int .i64 a.ex.kind, .int .i64 a.ex.num, .string a.ex.nm, .slice xa a.ex.args.length xc, .int .i64 a.count, .slice ta a.thn.length tc, .slice ea a.els.length ec], .bool true]) /\ Keeps zA w w':=by
 unfold zHH at d;have e1:IntKind.i64.wrap (((m+1:Nat):Int) - 1)=(m:Int):=J194 _;have i1:(0:Int) <= m:=by omega
 have i2:(m:Int) < ((m+1:Nat):Int):=by omega
 have i3:¬ ((m+1:Nat):Int)=0:=by omega
 have i4:(((m+1:Nat):Int)==0)=false:=yY i3;have i5:(0:Int) <= at_:=by omega
 have i6:(at_:Int) < na:=by omega
 obtain ⟨b4,w4,e3,e4,R4,K4,_⟩:=newRow w [.int .i64 0, .int .i64 0, .int .i64 0, .int .i64 0, .int .i64 0, .string { data:=#[] }, .slice none 0 0, .int .i64 0, .slice none 0 0, .slice none 0 0] 68;have fr:=zx R4;have HR4:=yB R4;have HB4:Hid (w.heap.size <= b4 /\ Keeps zA w w4):=⟨by exact J201 _,K4⟩;replace c2:=fun W (q:Keeps zA w4 W)=>c2 W (K4.zB q)
 replace p:=fun W (q:Keeps zA w4 W)=>p W (K4.zB q)
 replace d:=fun W (q:Keeps zA w4 W)=>d W (K4.zB q)
 have y:=R4.zAI;have k4:=zH w4;have f0:=fr 0 (by decide);have f1:=fr 1 (by decide);have f2:=fr 2 (by decide);have f3:=fr 3 (by decide);have f4:=fr 4 (by decide);have f5:=fr 5 (by decide);have f6:=fr 6 (by decide);have f7:=fr 7 (by decide);have f8:=fr 8 (by decide);have f9:=fr 9 (by decide);clear fr R4 K4;go_enter Tryz.func43,Tryz.ntmps43
 go_upto_region 1 with fail
 try rw [e3]
 try rw [e4]
 clear e3 e4;go_upto_region 3 with fail
 refine zL 13 (by kernel_rfl) (by kernel_rfl) (Keeps zA) (yC zA) (fun a b c h h'=>xE h h') (zAH [some (.pointer (some ⟨g,i*3,none⟩)),some (.pointer (some ⟨g,i*3,none⟩)),some (.pointer (some ⟨g,i*3+2,none⟩)),some (.slice (some ⟨gp,0,none⟩) (m+1) cap),some (.pointer (some ⟨g,i*3,none⟩)),some (.pointer (some ⟨g,i*3,none⟩)),some (.pointer (some ⟨g,i*3+2,none⟩)),some (.slice (some ⟨gp,0,none⟩) (m+1) cap),some (.int .i64 ((m+1:Nat):Int)),some (.int .i64 (m:Int)),some (.pointer (some ⟨gp,m*3,none⟩)),some (.agg #[.slice (some ⟨ga,oa,none⟩) na ac, .int .i64 at_, .int .i64 left]),none] (fun _ v W=>∃ b8,v=.pointer (some ⟨b8,0,none⟩) /\ zC W b8 [.slice none 0 0, .int .i64 0, .int .i64 0] /\ w4.heap.size <= b8)) (uG (fun _ _ _ _ h hk=>by obtain ⟨b8,e,h1,h2⟩:=h;exact ⟨b8,e,h1.keeps hk (fun h=>h),h2⟩)) ?_ ?_
 ·intro q oo hq ho vs W Q' hR hd hK
  have HRW:Keeps zA w4 W:=((zH w4).drew).zB hR;rcases (show q=0 \/ q=1 \/ q=2 \/ q=3 \/ q=4 \/ q=5 \/ q=6 \/ q=7 \/ q=8 \/ q=9 \/ q=10 \/ q=11 \/ q=12 by omega) with rfl | rfl | rfl | rfl | rfl | rfl | rfl | rfl | rfl | rfl | rfl | rfl | rfl
  all_goals (simp only [yD,yE,yO] at ho;subst ho;simp only [zJ,yD,yE,yL,Option.bind,Act.put,yF,yG,yH] at hK ⊢;clear hq)
  all_goals try ((try (have e:vs 0=_:=hd 0 (by decide +kernel);rw [e] at hK ⊢;clear e));(try (have e:vs 1=_:=hd 1 (by decide +kernel);rw [e] at hK ⊢;clear e));(try (have e:vs 2=_:=hd 2 (by decide +kernel);rw [e] at hK ⊢;clear e));(try (have e:vs 3=_:=hd 3 (by decide +kernel);rw [e] at hK ⊢;clear e));(try (have e:vs 4=_:=hd 4 (by decide +kernel);rw [e] at hK ⊢;clear e));(try (have e:vs 5=_:=hd 5 (by decide +kernel);rw [e] at hK ⊢;clear e));(try (have e:vs 6=_:=hd 6 (by decide +kernel);rw [e] at hK ⊢;clear e));(try (have e:vs 7=_:=hd 7 (by decide +kernel);rw [e] at hK ⊢;clear e));(try (have e:vs 8=_:=hd 8 (by decide +kernel);rw [e] at hK ⊢;clear e));(try (have e:vs 9=_:=hd 9 (by decide +kernel);rw [e] at hK ⊢;clear e));(try (have e:vs 10=_:=hd 10 (by decide +kernel);rw [e] at hK ⊢;clear e));(try (have e:vs 11=_:=hd 11 (by decide +kernel);rw [e] at hK ⊢;clear e));clear hd;go_wp2_with (fail);first | exact hK _ _ (yC _ _) rfl)
  ·clear hd
   exact J127 _
 ·intro vs W hR hFF
  have HRW:Keeps zA w4 W:=((zH w4).drew).zB hR;have e11:vs 11=_:=hFF 11 (by decide);obtain ⟨b8,e12,R8,l8⟩:=(hFF 12 (by decide):∃ b8,vs 12=.pointer (some ⟨b8,0,none⟩) /\ zC W b8 [.slice none 0 0, .int .i64 0, .int .i64 0] /\ w4.heap.size <= b8);simp only [zJ,yD,yE,yL,Option.bind,Act.put,yF,yG,yH,yS,yR];rw [e11,e12];have c8:=R8.zB5;have g0:=zx R8 0 (by decide);have g1:=zx R8 1 (by decide);have g2:=zx R8 2 (by decide);have kWW:=zH W;clear hFF e11 e12 hR c2;go_upto_region 4 with fail
  obtain ⟨R9,K9⟩:=zBE (w:=w4) [.slice (some ⟨ga,oa,none⟩) na ac, .int .i64 at_, .int .i64 left] R8 rfl HRW l8;simp only [zCz,yZ,Nat.reduceAdd] at R9 K9;generalize ((W.setCell ⟨b8,0,none⟩ (.slice (some ⟨ga,oa,none⟩) na ac)).setCell ⟨b8,1,none⟩ (.int .i64 at_)).setCell ⟨b8,2,none⟩ (.int .i64 left)=w6 at R9 K9 ⊢;clear c8 g0 g1 g2 kWW R8;have c9:=R9.zB5;have k6:=zH w6;replace f0:=fun W (q:Keeps zA w6 W)=>f0 W (K9.zB q)
  replace f1:=fun W (q:Keeps zA w6 W)=>f1 W (K9.zB q)
  replace f2:=fun W (q:Keeps zA w6 W)=>f2 W (K9.zB q)
  replace f3:=fun W (q:Keeps zA w6 W)=>f3 W (K9.zB q)
  replace f4:=fun W (q:Keeps zA w6 W)=>f4 W (K9.zB q)
  replace f5:=fun W (q:Keeps zA w6 W)=>f5 W (K9.zB q)
  replace f6:=fun W (q:Keeps zA w6 W)=>f6 W (K9.zB q)
  replace f7:=fun W (q:Keeps zA w6 W)=>f7 W (K9.zB q)
  replace f8:=fun W (q:Keeps zA w6 W)=>f8 W (K9.zB q)
  replace f9:=fun W (q:Keeps zA w6 W)=>f9 W (K9.zB q)
  replace d:=fun W (q:Keeps zA w6 W)=>d W (K9.zB q)
  replace y:=fun W (q:Keeps zA w6 W)=>y W (K9.zB q)
  have HR6:=yB (HR4.out.keeps K9 (fun h=>h));have HB6:Hid (w.heap.size <= b4 /\ Keeps zA w w6):=⟨HB4.out.1,HB4.out.2.zB K9⟩;clear K9 R9 HRW k4 p l8;go_wp2_with fail
  obtain ⟨R5,K5⟩:=zBE (w:=w) [.int .i64 a.kind, .int .i64 a.reg, .int .i64 a.obj, .int .i64 a.ex.kind, .int .i64 a.ex.num, .string a.ex.nm, .slice xa a.ex.args.length xc, .int .i64 a.count, .slice ta a.thn.length tc, .slice ea a.els.length ec] HR6.out rfl HB6.out.2 HB6.out.1;simp only [zCz,yZ,Nat.reduceAdd] at R5 K5;refine xA (v:=.tuple #[.agg #[.int .i64 a.kind, .int .i64 a.reg, .int .i64 a.obj, .int .i64 a.ex.kind, .int .i64 a.ex.num, .string a.ex.nm, .slice xa a.ex.args.length xc, .int .i64 a.count, .slice ta a.thn.length tc, .slice ea a.els.length ec], .bool true]) (J208 _) rfl ⟨rfl,K5⟩
theorem zJ1 {w:World} {b gt nm ct i:Nat} {st:Int} (hst:st ≠ 2) (hi:i < nm) (hb:∀ W,Keeps zA w W -> W.cell? ⟨b,5,none⟩=some (.slice (some ⟨gt,0,none⟩) nm ct)) (hs:∀ W,Keeps zA w W -> W.cell? ⟨gt,i*3,none⟩=some (.int .i64 st)) :
 Calls Tryz.prog 42 #[.pointer (some ⟨b,0,none⟩), .int .i64 i] w fun e w'=>e=.returned (.agg #[.int .i64 0, .int .i64 0]) /\ Keeps zA w w':=by
 have i1:(0:Int) <= i:=by omega
 have i2:(i:Int) < nm:=by omega
 have e1:(st != 2)=true:=uE.2 hst;obtain ⟨b4,w4,e3,e4,R4,K4,_⟩:=newRow w [.int .i64 0, .int .i64 0] 91;have fr:=zx R4;have HR4:=yB R4;have HB4:Hid (w.heap.size <= b4 /\ Keeps zA w w4):=⟨by exact J201 _,K4⟩;replace hb:=fun W (q:Keeps zA w4 W)=>hb W (K4.zB q)
 replace hs:=fun W (q:Keeps zA w4 W)=>hs W (K4.zB q)
 have y4:=R4.all2;have k4:=zH w4;have f0:=fr 0 (by decide);have f1:=fr 1 (by decide);clear fr R4 K4;go_enter Tryz.func42,Tryz.ntmps42
 go_upto_region 1 with fail
 try rw [e3]
 try rw [e4]
 clear e3 e4;go_wp2_with fail
 obtain ⟨R5,K5⟩:=zBE (w:=w) [.int .i64 0, .int .i64 0] HR4.out rfl HB4.out.2 HB4.out.1;simp only [zCz,yZ,Nat.reduceAdd] at R5 K5;refine xA (v:=.agg #[.int .i64 0, .int .i64 0]) (J227 _) rfl ⟨rfl,K5⟩
theorem zMO {w:World} {b gt nm ct i:Nat} (hi:i < nm) (hb:∀ W,Keeps zA w W -> W.cell? ⟨b,5,none⟩=some (.slice (some ⟨gt,0,none⟩) nm ct)) (hs:∀ W,Keeps zA w W -> W.cell? ⟨gt,i*3,none⟩=some (.int .i64 2))
 (HN:Ret w 43 #[.pointer (some ⟨gt,i*3,none⟩)] (.tuple #[zMS, .bool false])) :
 Calls Tryz.prog 42 #[.pointer (some ⟨b,0,none⟩), .int .i64 i] w fun e w'=>e=.returned (.agg #[.int .i64 9, .int .i64 i]) /\ Keeps zA w w':=by
 have i1:(0:Int) <= i:=by omega
 have i2:(i:Int) < nm:=by omega
 obtain ⟨b4,w4,e3,e4,R4,K4,_⟩:=newRow w [.int .i64 0, .int .i64 0] 91;have fr:=zx R4;have HR4:=yB R4;have HB4:Hid (w.heap.size <= b4 /\ Keeps zA w w4):=⟨by exact J201 _,K4⟩;replace hb:=fun W (q:Keeps zA w4 W)=>hb W (K4.zB q)
 replace hs:=fun W (q:Keeps zA w4 W)=>hs W (K4.zB q)
 have y4:=R4.all2;have k4:=zH w4;have f0:=fr 0 (by decide);have f1:=fr 1 (by decide);clear fr R4 K4;go_enter Tryz.func42,Tryz.ntmps42
 go_upto_region 1 with fail
 try rw [e3]
 try rw [e4]
 clear e3 e4;go_upto_region 4 with (go_at_call 43;refine HN.call HB4.out.2 ?_;intro w5 k05 k5)
 obtain ⟨ba,wa,e3,e4,RA,KA,_⟩:=newRow w5 [.int .i64 0, .int .i64 0, .int .i64 0, .int .i64 0, .int .i64 0, .string { data:=#[] }, .slice none 0 0, .int .i64 0, .slice none 0 0, .slice none 0 0] 68;rw [e3,e4];have K4A:Keeps zA w4 wa:=k5.zB KA;have HBA:Hid (w.heap.size <= b4 /\ Keeps zA w wa):=⟨HB4.out.1,k05.zB KA⟩;have HRA4:=yB (HR4.out.keeps K4A (fun h=>h));have y:=RA.zAI;have ka:=zH wa;replace y4:=fun W (q:Keeps zA wa W)=>y4 W (K4A.zB q)
 replace f0:=fun W (q:Keeps zA wa W)=>f0 W (K4A.zB q)
 replace f1:=fun W (q:Keeps zA wa W)=>f1 W (K4A.zB q)
 replace hb:=fun W (q:Keeps zA wa W)=>hb W (K4A.zB q)
 replace hs:=fun W (q:Keeps zA wa W)=>hs W (K4A.zB q)
 clear e3 e4 RA KA k5 k05 k4 K4A;go_wp2_with fail
 obtain ⟨R5,K5⟩:=zBE (w:=w) [.int .i64 9, .int .i64 i] HRA4.out rfl HBA.out.2 HBA.out.1;simp only [zCz,yZ,Nat.reduceAdd] at R5 K5;refine xA (v:=.agg #[.int .i64 9, .int .i64 i]) (J227 _) rfl ⟨rfl,K5⟩
theorem zMv {w:World} {b gt nm ct i:Nat} {a:Ac} {xa ta ea:Option Addr} {xc tc ec:Nat} (hk:2 <= a.kind /\ a.kind <= 9) (hi:i < nm) (hb:∀ W,Keeps zA w W -> W.cell? ⟨b,5,none⟩=some (.slice (some ⟨gt,0,none⟩) nm ct)) (hs:∀ W,Keeps zA w W -> W.cell? ⟨gt,i*3,none⟩=some (.int .i64 2))
 (HN:Ret w 43 #[.pointer (some ⟨gt,i*3,none⟩)] (.tuple #[.agg #[.int .i64 a.kind, .int .i64 a.reg, .int .i64 a.obj, .int .i64 a.ex.kind, .int .i64 a.ex.num, .string a.ex.nm, .slice xa a.ex.args.length xc, .int .i64 a.count, .slice ta a.thn.length tc, .slice ea a.els.length ec], .bool true])) :
 Calls Tryz.prog 42 #[.pointer (some ⟨b,0,none⟩), .int .i64 i] w fun e w'=>e=.returned (.agg #[.int .i64 (a.kind - 1), .int .i64 a.obj]) /\ Keeps zA w w':=by
 have i1:(0:Int) <= i:=by omega
 have i2:(i:Int) < nm:=by omega
 obtain ⟨b4,w4,e3,e4,R4,K4,_⟩:=newRow w [.int .i64 0, .int .i64 0] 91;have fr:=zx R4;have HR4:=yB R4;have HB4:Hid (w.heap.size <= b4 /\ Keeps zA w w4):=⟨by exact J201 _,K4⟩;replace hb:=fun W (q:Keeps zA w4 W)=>hb W (K4.zB q)
 replace hs:=fun W (q:Keeps zA w4 W)=>hs W (K4.zB q)
 have y4:=R4.all2;have k4:=zH w4;have f0:=fr 0 (by decide);have f1:=fr 1 (by decide);clear fr R4 K4;go_enter Tryz.func42,Tryz.ntmps42
 go_upto_region 1 with fail
 try rw [e3]
 try rw [e4]
 clear e3 e4;go_upto_region 4 with (go_at_call 43;refine HN.call HB4.out.2 ?_;intro w5 k05 k5)
 obtain ⟨ba,wa,e3,e4,RA,KA,_⟩:=newRow w5 [.int .i64 a.kind, .int .i64 a.reg, .int .i64 a.obj, .int .i64 a.ex.kind, .int .i64 a.ex.num, .string a.ex.nm, .slice xa a.ex.args.length xc, .int .i64 a.count, .slice ta a.thn.length tc, .slice ea a.els.length ec] 68;rw [e3,e4];have K4A:Keeps zA w4 wa:=k5.zB KA;have HBA:Hid (w.heap.size <= b4 /\ Keeps zA w wa):=⟨HB4.out.1,k05.zB KA⟩;have HRA4:=yB (HR4.out.keeps K4A (fun h=>h));have y:=RA.zAI;have ka:=zH wa;replace y4:=fun W (q:Keeps zA wa W)=>y4 W (K4A.zB q)
 replace f0:=fun W (q:Keeps zA wa W)=>f0 W (K4A.zB q)
 replace f1:=fun W (q:Keeps zA wa W)=>f1 W (K4A.zB q)
 replace hb:=fun W (q:Keeps zA wa W)=>hb W (K4A.zB q)
 replace hs:=fun W (q:Keeps zA wa W)=>hs W (K4A.zB q)
 clear e3 e4 RA KA k5 k05 k4 K4A;have HKK:=yB hk;clear hk hb hs;go_upto_region 6 with fail
 refine zL 6 (by kernel_rfl) (by kernel_rfl) (Keeps zA) (yC zA) (fun a b c h h'=>xE h h') (zAH [some (.pointer (some ⟨ba,0,none⟩)),some (.int .i64 a.kind),some (.int .i64 (a.kind - 1)),some (.pointer (some ⟨ba,2,none⟩)),some (.int .i64 a.obj),some (.agg #[.int .i64 (a.kind - 1), .int .i64 a.obj])] (fun _ _ _=>False)) (uG (fun _ _ _ _ h _=>h)) ?_ ?_
 ·intro q oo hq ho vs W Q' hR hd hK
  have HRW:Keeps zA wa W:=((zH wa).drew).zB hR;rcases (show q=0 \/ q=1 \/ q=2 \/ q=3 \/ q=4 \/ q=5 by omega) with rfl | rfl | rfl | rfl | rfl | rfl
  all_goals (simp only [yD,yE,yO] at ho;subst ho;simp only [zJ,yD,yE,yL,Option.bind,Act.put,yF,yG,yH] at hK ⊢;clear hq)
  all_goals try ((try (have e:vs 0=_:=hd 0 (by decide +kernel);rw [e] at hK ⊢;clear e));(try (have e:vs 1=_:=hd 1 (by decide +kernel);rw [e] at hK ⊢;clear e));(try (have e:vs 2=_:=hd 2 (by decide +kernel);rw [e] at hK ⊢;clear e));(try (have e:vs 3=_:=hd 3 (by decide +kernel);rw [e] at hK ⊢;clear e));(try (have e:vs 4=_:=hd 4 (by decide +kernel);rw [e] at hK ⊢;clear e));(try (have e:vs 5=_:=hd 5 (by decide +kernel);rw [e] at hK ⊢;clear e));clear hd f0 f1 y4;go_wp2_with (go_at_call 75;refine (zJ9 _ _ HKK.out).mono ?_;rintro e w8 ⟨rfl,rfl⟩);first | exact hK _ _ (yC _ _) rfl)
 ·intro vs W hR hFF
  have HRW:Keeps zA wa W:=((zH wa).drew).zB hR;have e5:vs 5=_:=hFF 5 (by decide);simp only [zJ,yD,yE,yL,Option.bind,Act.put,yF,yG,yH,yS,yR];rw [e5];clear hFF e5 y;go_wp2_with fail
  obtain ⟨R5,K5⟩:=zBE (w:=w) [.int .i64 (a.kind - 1), .int .i64 a.obj] (HRA4.out.keeps HRW (fun h=>h)) rfl (HBA.out.2.zB HRW) HBA.out.1;simp only [zCz,yZ,Nat.reduceAdd] at R5 K5;refine xA (v:=.agg #[.int .i64 (a.kind - 1), .int .i64 a.obj]) (J227 _) rfl ⟨rfl,K5⟩
end Go.Proofs.YtfokdllgnblamaaGreatDoor
