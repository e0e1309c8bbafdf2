/- Layer D: texts joined. -/
import Derived.Test.YtoapgjjepiopbaaGreatDoorD30
set_option linter.all false
set_option maxHeartbeats 8000000
set_option maxRecDepth 8000
namespace Go.Proofs.YtoapgjjepiopbaaGreatDoor
open Go.RowKit
abbrev uD:=@zy.get_some
theorem J90(P:Prop) (h:P:=by
 obtain⟨g,e,h1,h2⟩:=h;exact⟨g,e,zD h1 hk (λ_ _ h=>h),h2⟩):P:=h
theorem J123(P:Prop) (h:P:=by
 rcases e with e|e
 ·rcases e with e|⟨j,e|e⟩ <;> exact ho q _ e (by simp)
 ·exact hF q e):P:=h
def zBk(w:World)(F:Nat->Prop)(bs:List Bd)(ad:Option Addr):Prop:=
 ∀i (hi:i<bs.length),∃g o v,ad=some ⟨g,o,none⟩/\F g/\w.cell? ⟨g,o+i*2,none⟩=some (.int .i64 bs[i].regs)/\w.cell? ⟨g,o+i*2+1,none⟩=some v/\zA3 w F bs[i].acts v
theorem zBk.keeps{S F:Nat->Prop}{w w':World}{bs:List Bd}{ad:Option Addr}(h:zBk w F bs ad)(hk:Keeps S w w')(hS:∀k,F k->¬S k):zBk w' F bs ad:=by
 intro i hi
 obtain⟨g,o,v,e,hg,c0,c1,h1⟩:=h i hi;exact⟨g,o,v,e,hg,hk.cell (p:=⟨g,_,none⟩) (hS g hg) c0,hk.cell (p:=⟨g,_,none⟩) (hS g hg) c1,h1.keeps hk hS⟩
abbrev zC0:=World->(Nat->Prop)->List Bd->Option Addr->Prop
structure BOk(B:zC0):Prop where
 keeps:∀{S F:Nat->Prop}{w w':World}{bs:List Bd}{ad:Option Addr},B w F bs ad->Keeps S w w'->(∀k,F k->¬S k)->B w' F bs ad
theorem zAG:BOk zBk:=⟨λh=>h.keeps⟩
structure zB8 where
 ca:Option Addr
 cn:Nat
 cc:Nat
 mu:Int
 ut:Option Addr
 utc:Nat
 cad:Option Addr
 ccap:Nat
 oad:Option Addr
 ocap:Nat
 gt:Nat
 ct:Nat
def zB8.row(p:zB8)(nt nc no n:Nat):List Value:=[.slice p.ca p.cn p.cc,.int .i64 p.mu,.slice p.ut nt p.utc,.slice p.cad nc p.ccap,.slice p.oad no p.ocap,.slice (some ⟨p.gt,0,none⟩) n p.ct]
structure MaP(R:zA5 WFr)(sz:Nat)(ty:TypeId)(B:zC0)(w:World)(T:zZ)(F:Nat->Prop)(id b:Nat)(u:Un)(p:zB8)(m:zy)(H:List HTh):Prop where
 tag:T b=some (id,.mach)
 row:zB w b (p.row u.threads.length m.cells.length m.owners.length m.zP.length)
 cells:zBX w T id .cells (.slice p.cad m.cells.length p.ccap) m.cells
 owners:zBX w T id .owners (.slice p.oad m.owners.length p.ocap) m.owners
 zP:zAm R sz ty w T F id p.gt H m.zP
 bds:B w F u.threads p.ut
def zAy(R:zA5 WFr)(sz:Nat)(ty:TypeId)(B:zC0)(w:World)(T:zZ)(F:Nat->Prop)(id b:Nat)(u:Un)(p:zB8)(m':zy)(w':World):Prop:=
 ∃T' H',MaP R sz ty B w' T' F id b u p m' H'/\zAT T T' id w/\Keeps (zAk T id) w w'
section
variable {R:zA5 WFr} {sz:Nat} {ty:TypeId} {B:zC0} (L:zAU R sz) (LB:BOk B) {S:Nat->Prop} {w w' w2:World} {T T':zZ} {F:Nat->Prop} {id b i:Nat} {u:Un} {p:zB8} {m m':zy} {H:List HTh} {t t':WTh}
theorem MaP.free(h:MaP R sz ty B w T F id b u p m H):∀k,F k->¬zAk T id k:=λk hk ⟨t,e⟩=>by
 have:=h.zP.sep.sep k hk
 rw[e] at this;cases this
include L LB in
theorem MaP.keeps(h:MaP R sz ty B w T F id b u p m H)(hk:Keeps S w w')(hS:∀k,zAk T id k\/F k->¬S k):MaP R sz ty B w' T F id b u p m H:=
 ⟨h.tag,h.row.keeps hk (hS b (.inl ⟨_,h.tag⟩)),h.cells.keeps hk (λk e=>hS k (.inl ⟨_,e⟩)),h.owners.keeps hk (λk e=>hS k (.inl ⟨_,e⟩)),
  yd L h.zP hk (λk e=>hS k (e.imp zD3.own (λh=>h))),LB.keeps h.bds hk (λk e=>hS k (.inr e))⟩
include L LB in
theorem MaP.zG(h:MaP R sz ty B w T F id b u p m H)(hk:Keeps zA w w'):MaP R sz ty B w' T F id b u p m H:=MaP.keeps L LB h hk (λ_ _ h=>h)
theorem zAy.start(h:MaP R sz ty B w T F id b u p m H):zAy R sz ty B w T F id b u p m w:=⟨T,H,h,vL T id w,yB _ _⟩
theorem zAy.before(h:zAy R sz ty B w' T F id b u p m' w2)(hk:Keeps zA w w'):zAy R sz ty B w T F id b u p m' w2:=by
 exact J75 _
theorem zAy.trans(hx:zAT T T' id w)(hk:Keeps (zAk T id) w w')(h:zAy R sz ty B w' T' F id b u p m' w2):zAy R sz ty B w T F id b u p m' w2:=by
 obtain⟨T2,H2,h1,h2,h3⟩:=h;exact⟨T2,H2,h1,hx.trans h2 hk.size,hk.trans h3 (λk hlt hs=>hx.own hs hlt)⟩
include LB in
theorem MaP.went(h:MaP R sz ty B w T F id b u p m H)(hw:zAu R sz ty w T F id p.gt i m.zP t' w'):zAy R sz ty B w T F id b u p (m.zA0 i t') w':=by
 obtain⟨T',H',h1,h2,h3⟩:=hw
 have hn:∀k t,T k=some (id,t)->(t=.mach\/t=.cells\/t=.owners)->¬zD3 T id k:=λk t e ht hb=>by
  rcases hb with hb|⟨j,hb|hb⟩ <;> (rw[hb] at e;cases e;rcases ht with ht|ht|ht <;> cases ht)
 refine⟨T',H',⟨h2.1 _ _ h.tag,?_,(h.cells.keeps h3 (λk e=>hn k _ e (.inr (.inl rfl)))).ext h2.1,(h.owners.keeps h3 (λk e=>hn k _ e (.inr (.inr rfl)))).ext h2.1,h1,LB.keeps h.bds h3 (λk hk hb=>h.free k hk hb.own)⟩,h2,h3.mono (λk _ e=>e.own)⟩
 have e:(m.zA0 i t').zP.length=m.zP.length:=xQ;rw[e];exact h.row.keeps h3 (hn b _ h.tag (.inl rfl))
include L LB in
theorem MaP.cell(h:MaP R sz ty B w T F id b u p m H){k:Nat}(hk:k<m.cells.length):∃g,p.cad=some ⟨g,0,none⟩/\zB w g (ints m.cells)/\∀v,zAy R sz ty B w T F id b u p { m with cells:=m.cells.set k v } (w.setCell ⟨g,k,none⟩ (.int .i64 v)):=by
 obtain⟨g,cap,e,hT,hr⟩:=h.cells.at hk;simp only[xH] at e;obtain⟨e1,_,e2⟩:=e;refine⟨g,e1,hr,λv=>?_⟩
 have hkp:Keeps (λq=>q=g) w (w.setCell ⟨g,k,none⟩ (.int .i64 v)):=(yB (λq=>q=g) w).setCell (p:=⟨g,k,none⟩) (λ_=>rfl) _;have hF:∀q,F q->¬q=g:=λq hq e=>h.free q hq (by rw[e];exact⟨_,hT⟩)
 have ho:∀q t,T q=some (id,t)->t ≠ .cells->¬q=g:=λq t e1 e2 e3=>by rw[e3,hT] at e1;cases e1;exact e2 rfl
 refine⟨T,H,⟨h.tag,?_,?_,h.owners.keeps hkp (λq e=>ho q _ e (by decide)),yd L h.zP hkp (λq e=>?_),LB.keeps h.bds hkp hF⟩,vL T id w,hkp.mono (λq _ e=>by rw[e];exact⟨_,hT⟩)⟩
 ·show zB _ _ (p.row _ (m.cells.set k v).length _ _)
  rw[xQ];exact h.row.keeps hkp (ho b _ h.tag (by decide))
 ·have:=zBX.set (id:=id) (t:=.cells) (cap:=p.ccap) hT hr k hk v
  show zBX _ _ _ _ (.slice p.cad (m.cells.set k v).length p.ccap) (m.cells.set k v)
  rw[e1,xQ];exact this
 ·exact J123 _
include L LB in
theorem MaP.owner(h:MaP R sz ty B w T F id b u p m H){k:Nat}(hk:k<m.owners.length):∃g,p.oad=some ⟨g,0,none⟩/\zB w g (ints m.owners)/\∀v,zAy R sz ty B w T F id b u p { m with owners:=m.owners.set k v } (w.setCell ⟨g,k,none⟩ (.int .i64 v)):=by
 obtain⟨g,cap,e,hT,hr⟩:=h.owners.at hk;simp only[xH] at e;obtain⟨e1,_,e2⟩:=e;refine⟨g,e1,hr,λv=>?_⟩
 have hkp:Keeps (λq=>q=g) w (w.setCell ⟨g,k,none⟩ (.int .i64 v)):=(yB (λq=>q=g) w).setCell (p:=⟨g,k,none⟩) (λ_=>rfl) _;have hF:∀q,F q->¬q=g:=λq hq e=>h.free q hq (by rw[e];exact⟨_,hT⟩)
 have ho:∀q t,T q=some (id,t)->t ≠ .owners->¬q=g:=λq t e1 e2 e3=>by rw[e3,hT] at e1;cases e1;exact e2 rfl
 refine⟨T,H,⟨h.tag,?_,h.cells.keeps hkp (λq e=>ho q _ e (by decide)),?_,yd L h.zP hkp (λq e=>?_),LB.keeps h.bds hkp hF⟩,vL T id w,hkp.mono (λq _ e=>by rw[e];exact⟨_,hT⟩)⟩
 ·show zB _ _ (p.row _ _ (m.owners.set k v).length _)
  rw[xQ];exact h.row.keeps hkp (ho b _ h.tag (by decide))
 ·have:=zBX.set (id:=id) (t:=.owners) (cap:=p.ocap) hT hr k hk v
  show zBX _ _ _ _ (.slice p.oad (m.owners.set k v).length p.ocap) (m.owners.set k v)
  rw[e1,xQ];exact this
 ·exact J123 _
include L in
theorem zNE{g:Nat}{zP:List WTh}{rv fv:Value}(h:zAm R sz ty w T F id g H zP)(hH:H[i]?=some ⟨t.st,rv,fv⟩)(hr:zBX w T id (.regs i) rv t.regs)(hf:zCK R sz ty w T F id i fv t.fs)(s:Int):zAu R sz ty w T F id g i zP { t with st:=s } (w.setCell ⟨g,i*3,none⟩ (.int .i64 s)):=by
 have hk:Keeps (λk=>k=g) w (w.setCell ⟨g,i*3,none⟩ (.int .i64 s)):=(yB (λk=>k=g) w).setCell (p:=⟨g,i*3,none⟩) (λ_=>rfl) _;have hg:∀k y,T k=some y->y≠(id,.zP)->¬k=g:=λk y e1 e2 e3=>by rw[e3,h.tag] at e1;cases e1;exact e2 rfl
 have hF:∀k,F k->¬k=g:=λk hk e=>by have:=h.sep.sep k hk;rw[e,h.tag] at this;cases this
 have hrow:=zEc h.row hH 0 (by decide) (.int .i64 s) ⟨s,rv,fv⟩ rfl;have hu:=zAm.upd (i:=i) (t':={ t with st:=s }) L h (vL T id w) (h.sep.keeps hk) (hk.mono (λk _ e=>.inl e)) (a':=⟨s,rv,fv⟩) hrow rfl (hr.keeps hk (λk e=>hg k _ e (by simp))) (zCK.keeps L hf hk (λk e=>hg k _ e (by simp)) hF);exact⟨T,_,hu,vL T id w,hk.mono (λk _ e=>by rw[e];exact .inl h.tag)⟩
end
theorem zB.zGm{w:World}{g:Nat}{a b c d e f:Value}(r:zB w g [a,b,c,d,e,f]):∀W,Keeps zA w W->W.cell? ⟨g,0,none⟩=some a/\W.cell? ⟨g,1,none⟩=some b/\W.cell? ⟨g,2,none⟩=some c/\W.cell? ⟨g,3,none⟩=some d/\W.cell? ⟨g,4,none⟩=some e/\W.cell? ⟨g,5,none⟩=some f:=λW q =>
 have r':=r.keeps q (λh=>h);⟨r'.cell (k:=0) rfl,r'.cell (k:=1) rfl,r'.cell (k:=2) rfl,r'.cell (k:=3) rfl,r'.cell (k:=4) rfl,r'.cell (k:=5) rfl⟩
theorem zMR(n:Nat):(madeCells (Value.int .i64 0).cells (n*1)).toList=ints (List.replicate n 0):=by
 rcases uM n with rfl|h
 ·simp[madeCells,ints]
 ·apply List.ext_getElem?
  intro k
  simp only[madeCells,ints,Array.toList_map,Array.toList_range,List.getElem?_map,List.map_replicate,vJ,Nat.mul_one];by_cases hk:k<n
  ·simp[hk,Value.cells,Nat.mod_one]
  ·simp[hk]
def zFt(w W:World)(n:Nat)(v:Value):Prop:=∃g,v=.slice (some ⟨g,0,none⟩) n n/\W.ownsRow 0 3 1 (.slice (some ⟨g,0,none⟩) n n) n (ints (List.replicate n 0))/\w.heap.size<=g
def zFo(w W:World)(pv:Value)(v:Value):Prop:=∃g,v=.slice (some ⟨g,0,none⟩) 1 1/\W.ownsRow 0 148 1 (.slice (some ⟨g,0,none⟩) 1 1) 1 [pv]/\w.heap.size<=g
theorem zFt.keeps{w W W':World}{n:Nat}{v:Value}(h:zFt w W n v)(hk:Keeps zA W W'):zFt w W' n v:=by
 exact J90 _
theorem zFo.keeps{w W W':World}{pv v:Value}(h:zFo w W pv v)(hk:Keeps zA W W'):zFo w W' pv v:=by
 exact J90 _
theorem zQb{R:zA5 WFr}{sz:Nat}{ty:TypeId}(L:zAU R sz){w W:World}{T:zZ}{F:Nat->Prop}{id g i n g1 g2:Nat}{H:List HTh}{zP:List WTh}{f:WFr}{cs:List Value}(st:Int)(h:zAm R sz ty w T F id g H zP)(hi:i<zP.length)(hk:Keeps zA w W)
 (o1:W.ownsRow 0 3 1 (.slice (some ⟨g1,0,none⟩) n n) n (ints (List.replicate n 0))) (l1:w.heap.size<=g1) (o2:W.ownsRow 0 ty sz (.slice (some ⟨g2,0,none⟩) 1 1) 1 cs) (l2:w.heap.size<=g2) (hg:0<n->g1≠g2) (hR:R W F f cs):
 zAu R sz ty w T F id g i zP ⟨st,List.replicate n 0,[f]⟩ (((W.setCell ⟨g,i*3,none⟩ (.int .i64 st)).setCell ⟨g,i*3+1,none⟩ (.slice (some ⟨g1,0,none⟩) n n)).setCell ⟨g,i*3+2,none⟩ (.slice (some ⟨g2,0,none⟩) 1 1)):=by
 have hgl:g<w.heap.size:=h.sep.ok g _ h.tag;have h1:=h.sep.free l1;have h2:=h.sep.free l2;have lt1:g1<W.heap.size:=zM o1 rfl;have lt2:g2<W.heap.size:=zM o2 rfl;have hH:∃a,H[i]?=some a:=⟨_,yL (by rw[h.len];exact hi)⟩
 obtain⟨a,ha⟩:=hH;have hil:i<H.length:=by rw[h.len];exact hi
 have r0:=h.row.keeps hk (λh=>h);have r1:=zEc r0 ha 0 (by decide) (.int .i64 st) ⟨st,a.rv,a.fv⟩ rfl;have r2:=zEc r1 (xV hil) 1 (by decide) (.slice (some ⟨g1,0,none⟩) n n) ⟨st,.slice (some ⟨g1,0,none⟩) n n,a.fv⟩ rfl;rw[List.set_set] at r2;have r3:=zEc r2 (xV hil) 2 (by decide) (.slice (some ⟨g2,0,none⟩) 1 1) ⟨st,.slice (some ⟨g1,0,none⟩) n n,.slice (some ⟨g2,0,none⟩) 1 1⟩ rfl;rw[List.set_set] at r3
 have hkg:Keeps (λk=>k=g) W (((W.setCell ⟨g,i*3,none⟩ (.int .i64 st)).setCell ⟨g,i*3+1,none⟩ (.slice (some ⟨g1,0,none⟩) n n)).setCell ⟨g,i*3+2,none⟩ (.slice (some ⟨g2,0,none⟩) 1 1)):=
  (((yB (λk=>k=g) W).setCell (p:=⟨g,i*3,none⟩) (λ_=>rfl) _).setCell (p:=⟨g,i*3+1,none⟩) (λ_=>rfl) _).setCell (p:=⟨g,i*3+2,none⟩) (λ_=>rfl) _
 have r3':zB (((W.setCell ⟨g,i*3,none⟩ (.int .i64 st)).setCell ⟨g,i*3+1,none⟩ (.slice (some ⟨g1,0,none⟩) n n)).setCell ⟨g,i*3+2,none⟩ (.slice (some ⟨g2,0,none⟩) 1 1)) g _:=r3;generalize (((W.setCell ⟨g,i*3,none⟩ (.int .i64 st)).setCell ⟨g,i*3+1,none⟩ (.slice (some ⟨g1,0,none⟩) n n)).setCell ⟨g,i*3+2,none⟩ (.slice (some ⟨g2,0,none⟩) 1 1))=w' at hkg r3' ⊢;have hkw:Keeps (λk=>k=g) w w':=(hk.mono (λ_ _ h=>h.elim)).trans hkg (λ_ _ h=>h)
 have hT:∃T',zAT T T' id w/\(0<n->T' g1=some (id,.regs i))/\T' g2=some (id,.fs i)/\zFu w' T' F:=by
  have hw':W.heap.size<=w'.heap.size:=hkg.size;rcases uM n with e|e
  ·exact⟨zC7 T id (.fs i) g2,zCp (.inr ⟨h2.1,l2⟩),λq=>absurd e (by omega),zDE _ _ _ _,(h.sep.keeps hkw).tag (by omega) h2.2⟩
  ·have hne:=hg e
   have e2:zC7 T id (.regs i) g1 g2=none:=by unfold zC7;rw[if_neg (λq=>hne q.symm)];exact h2.1
   refine⟨zC7 (zC7 T id (.regs i) g1) id (.fs i) g2,(zCp (.inr ⟨h1.1,l1⟩)).trans (zCp (.inr ⟨e2,l2⟩)) (yT _),λ_=>?_,zDE _ _ _ _,((h.sep.keeps hkw).tag (by omega) h1.2).tag (by omega) h2.2⟩
   unfold zC7;rw[if_neg hne,if_pos rfl]
 obtain⟨T',hx,t1,t2,hsep⟩:=hT;have ng1:¬g1=g:=by omega
 have ng2:¬g2=g:=by omega
 have o1':=zD o1 hkg (λq e1 e2=>by have e3:g1=q:=(J238 _);exact ng1 (e3.trans e2));have o2':=zD o2 hkg (λq e1 e2=>by have e3:g2=q:=(J238 _);exact ng2 (e3.trans e2));have hF:∀k,F k->¬k=g:=λk hk e=>by have:=h.sep.sep k hk;rw[e,h.tag] at this;cases this
 have hI:zBX w' T' id (.regs i) (.slice (some ⟨g1,0,none⟩) n n) (List.replicate n 0):=
  ⟨some ⟨g1,0,none⟩,n,by rw[uF],λhn=>⟨g1,rfl,t1 (by rcases uM n with e|e;exact absurd (by rw[e];rfl) hn;exact e),uB o1'⟩⟩
 have hf:zCK R sz ty w' T' F id i (.slice (some ⟨g2,0,none⟩) 1 1) [f]:=
  ⟨[cs],rfl,by simpa using o2',λkb e=>by have e3:g2=kb:=(J239 _);rw[<-e3];exact t2,⟨_,_,rfl⟩,λj y ds e1 e2=>by
   have hz:j=0:=by have:=(yP.1 e1).1;simpa using this
   subst hz;simp only[yC,yN] at e1 e2;subst e1 e2;exact L.keeps hR hkg hF⟩
 have hkk:Keeps (λk=>k=g\/T k=some (id,.regs i)\/T k=some (id,.fs i)) w w':=hkw.mono (λk _ e=>.inl e);exact⟨T',_,zAm.upd (i:=i) (t':=⟨st,List.replicate n 0,[f]⟩) L h hx hsep hkk (a':=⟨st,.slice (some ⟨g1,0,none⟩) n n,.slice (some ⟨g2,0,none⟩) 1 1⟩) r3' rfl hI hf,hx,zHh h hkk⟩
theorem zHd{w:World}{T:zZ}{F:Nat->Prop}{id b i:Nat}{u:Un}{p:zB8}{m:zy}{H:List HTh}(h:MaP zm 1 148 zBk w T F id b u p m H)(hr:zX u=true)(hm:m.ok u)(hi:i<m.zP.length):
 Calls Tryz.prog 61 #[.pointer (some ⟨b,0,none⟩),i] w λe w'=>e=.returned (.tuple #[])/\zAy zm 1 148 zBk w T F id b u p (zGb u m i) w':=by
 obtain⟨bd,hbd,_,hbe⟩:=hm.th hi;have hi2:=(yP.1 hbd).1;have hbd':u.threads[i]=bd:=(yP.1 hbd).2;have hmay:=(zBT hr).2.2.2.2.2 bd (List.mem_of_getElem? hbd);obtain⟨gu,ou,v,hut,hFu,c0,c1,hacs⟩:=h.bds i hi2;rw[hbd'] at c0 hacs;obtain⟨va,vc,rfl⟩:=hacs.slice;have HM:=yA h;have y:=zB.zGm (show zB w b [_,_,_,_,_,_] from h.row);have d:∀W,Keeps zA w W->W.cell? ⟨gu,ou+i*2,none⟩=some (.int .i64 bd.regs)/\W.cell? ⟨gu,ou+i*2+1,none⟩=some (.slice va bd.acts.length vc):=λW q=>⟨q.cell (λh=>h) c0,q.cell (λh=>h) c1⟩
 obtain⟨ca,cn,cc,mu,ut,utc,cad,ccap,oad,ocap,gt,ct⟩:=p;dsimp only at y hut
 subst hut
 have fr:∀j,j<3->∀W,Keeps zA w W->W.frozen? ⟨gt,i*3+j,none⟩=false:=λj hj=>zK (zD0 h.zP.row (by rw[h.zP.len];exact hi) j hj) (by
  have hl:i<H.length:=by rw[h.zP.len];exact hi
  obtain⟨t1,t2,t3⟩:=zAP h.zP.row (yL hl);rcases (show j=0\/j=1\/j=2 by omega) with rfl|rfl|rfl
  ·exact⟨_,t1⟩
  ·exact⟨_,t2⟩
  ·exact⟨_,t3⟩)
 have f0:∀W,Keeps zA w W->W.frozen? ⟨gt,i*3,none⟩=false:=fr 0 (by decide)
 have f1:=fr 1 (by decide);have f2:=fr 2 (by decide);obtain⟨rv0,fv0,hH0,_⟩:=h.zP.get (uD hi);have th:=zAP h.zP.row hH0;have s0:=zL th.1;have s1:=zL th.2.1;have s2:=zL th.2.2;clear th hH0;obtain⟨rg,hrg⟩:∃n:Nat,bd.regs=n:=⟨bd.regs.toNat,by have:=hmay.1;omega⟩
 have hrb:rg<=8:=by have:=hmay.2.1;omega
 have HB:Hid (u.body i=bd/\Ac.zAC u bd.regs bd.acts=true/\Ac.hL bd.acts<=500/\bd.regs=(rg:Int)/\zA3 w F bd.acts (.slice va bd.acts.length vc)/\zX u=true/\m.ok u/\i<m.zP.length):=⟨hbe,hmay.2.2.1,hmay.2.2.2,hrg,hacs,hr,hm,hi⟩;rw[hrg] at d;have i0:(0:Int)<=i:=by omega
 have i1:(i:Int)<(m.zP.length:Int):=by omega
 have i2:(i:Int)<(u.threads.length:Int):=by omega
 have r0:(0:Int)<=rg:=by omega
 obtain⟨k0,hk0,hz0,hz1,hz2⟩:=info_parts zBI;obtain⟨nt,hnt⟩:=eX u.threads.length;obtain⟨nm,hnm⟩:=eX m.zP.length;obtain⟨na,hna⟩:=eX bd.acts.length;rw[<-hnt] at y i2;rw[<-hnm] at y i1;rw[<-hna] at d;have HN:Hid (nt=u.threads.length/\nm=m.zP.length/\na=bd.acts.length):=⟨hnt,hnm,hna⟩;clear h hm hi hbd hbd' hi2 hFu c0 c1 hmay hacs fr hrg hbe hnt hnm hna hr;have k0w:=zF w;go_enter Tryz.func61,Tryz.ntmps61
 go_upto_region 0 with fail
 refine zW 29 (by kernel_rfl) (by kernel_rfl) (Keeps zA) (yB zA) (λa b c h h'=>xJ h h') (zAz [some (.pointer (some ⟨b,0,none⟩)),some (.pointer (some ⟨b,0,none⟩)),some (.pointer (some ⟨b,5,none⟩)),some (.slice (some ⟨gt,0,none⟩) nm ct),some (.int .i64 (i:Int)),some (.pointer (some ⟨b,0,none⟩)),some (.pointer (some ⟨b,0,none⟩)),some (.pointer (some ⟨b,0,none⟩)),some (.pointer (some ⟨b,2,none⟩)),some (.slice (some ⟨gu,ou,none⟩) nt utc),some (.int .i64 (i:Int)),some (.pointer (some ⟨gu,ou+i*2,none⟩)),some (.pointer (some ⟨gu,ou+i*2,none⟩)),some (.int .i64 (rg:Int)),none,some (.pointer (some ⟨b,0,none⟩)),some (.pointer (some ⟨b,0,none⟩)),some (.pointer (some ⟨b,0,none⟩)),some (.pointer (some ⟨b,2,none⟩)),some (.slice (some ⟨gu,ou,none⟩) nt utc),some (.int .i64 (i:Int)),some (.pointer (some ⟨gu,ou+i*2,none⟩)),some (.pointer (some ⟨gu,ou+i*2+1,none⟩)),some (.slice va na vc),some (.agg #[.slice va na vc]),some (.iface 201 (.agg #[.slice va na vc])),none,none,some (.pointer (some ⟨gt,i*3,none⟩))] (λj v W=>if j=14 then zFt w W rg v else if j=26 then zFo w W (.iface 201 (.agg #[.slice va na vc])) v else ∃v1 v2,v=.agg #[(2:Int),v1,v2]/\zFt w W rg v1/\zFo w W (.iface 201 (.agg #[.slice va na vc])) v2)) (vQ (λj v W W' h hk=>by
  revert h
  split
  ·exact λh=>h.keeps hk
  ·split
   ·exact λh=>h.keeps hk
   ·rintro⟨v1,v2,e,h1,h2⟩;exact⟨v1,v2,e,h1.keeps hk,h2.keeps hk⟩)) ?_ ?_
 ·intro q oo hq ho vs W Q' hR hd hK
  have HRW:Keeps zA w W:=((zF w).drew).zC hR;rcases (show q=0\/q=1\/q=2\/q=3\/q=4\/q=5\/q=6\/q=7\/q=8\/q=9\/q=10\/q=11\/q=12\/q=13\/q=14\/q=15\/q=16\/q=17\/q=18\/q=19\/q=20\/q=21\/q=22\/q=23\/q=24\/q=25\/q=26\/q=27\/q=28 by omega) with rfl|rfl|rfl|rfl|rfl|rfl|rfl|rfl|rfl|rfl|rfl|rfl|rfl|rfl|rfl|rfl|rfl|rfl|rfl|rfl|rfl|rfl|rfl|rfl|rfl|rfl|rfl|rfl|rfl
  all_goals (simp only[yC,yD,yN] at ho;subst ho;simp only[zJ,yC,yD,yO,Option.bind,Act.put,yE,yM,yJ] at hK ⊢;clear hq)
  all_goals try((try(have e:vs 0=_:=hd 0 (by decide +kernel);rw[e] at hK ⊢;clear e));(try(have e:vs 1=_:=hd 1 (by decide +kernel);rw[e] at hK ⊢;clear e));(try(have e:vs 2=_:=hd 2 (by decide +kernel);rw[e] at hK ⊢;clear e));(try(have e:vs 3=_:=hd 3 (by decide +kernel);rw[e] at hK ⊢;clear e));(try(have e:vs 4=_:=hd 4 (by decide +kernel);rw[e] at hK ⊢;clear e));(try(have e:vs 5=_:=hd 5 (by decide +kernel);rw[e] at hK ⊢;clear e));(try(have e:vs 6=_:=hd 6 (by decide +kernel);rw[e] at hK ⊢;clear e));(try(have e:vs 7=_:=hd 7 (by decide +kernel);rw[e] at hK ⊢;clear e));(try(have e:vs 8=_:=hd 8 (by decide +kernel);rw[e] at hK ⊢;clear e));(try(have e:vs 9=_:=hd 9 (by decide +kernel);rw[e] at hK ⊢;clear e));(try(have e:vs 10=_:=hd 10 (by decide +kernel);rw[e] at hK ⊢;clear e));(try(have e:vs 11=_:=hd 11 (by decide +kernel);rw[e] at hK ⊢;clear e));(try(have e:vs 12=_:=hd 12 (by decide +kernel);rw[e] at hK ⊢;clear e));(try(have e:vs 13=_:=hd 13 (by decide +kernel);rw[e] at hK ⊢;clear e));(try(have e:vs 15=_:=hd 15 (by decide +kernel);rw[e] at hK ⊢;clear e));(try(have e:vs 16=_:=hd 16 (by decide +kernel);rw[e] at hK ⊢;clear e));(try(have e:vs 17=_:=hd 17 (by decide +kernel);rw[e] at hK ⊢;clear e));(try(have e:vs 18=_:=hd 18 (by decide +kernel);rw[e] at hK ⊢;clear e));(try(have e:vs 19=_:=hd 19 (by decide +kernel);rw[e] at hK ⊢;clear e));(try(have e:vs 20=_:=hd 20 (by decide +kernel);rw[e] at hK ⊢;clear e));(try(have e:vs 21=_:=hd 21 (by decide +kernel);rw[e] at hK ⊢;clear e));(try(have e:vs 22=_:=hd 22 (by decide +kernel);rw[e] at hK ⊢;clear e));(try(have e:vs 23=_:=hd 23 (by decide +kernel);rw[e] at hK ⊢;clear e));(try(have e:vs 24=_:=hd 24 (by decide +kernel);rw[e] at hK ⊢;clear e));(try(have e:vs 25=_:=hd 25 (by decide +kernel);rw[e] at hK ⊢;clear e));(try(have e:vs 28=_:=hd 28 (by decide +kernel);rw[e] at hK ⊢;clear e));clear hd;go_wp2_with (fail);first|exact hK _ _ (yB _ _) rfl)
  ·have e:vs 13=_:=hd 13 (by kernel_rfl)
   rw[e] at hK ⊢;clear hd e;refine wpList_make_full _ rfl _ _ _ rfl 0 3 k0 _ 1 Tryz.underlying22 hk0 hz0 hz1 _ _ _ _ rg (by rfl) (by rfl) rfl rfl (by rw[hz2];omega) (by unfold maxLen;omega) (yF _) ?_
   intro w1 hown hgr
   rw[zMR] at hown;exact hK _ _ ((yB _ _).grown hgr (λk e=>by cases e)) (by show zFt _ _ _ _;exact⟨_,rfl,hown,HRW.size⟩)
  ·have e:vs 25=_:=hd 25 (by kernel_rfl)
   rw[e] at hK ⊢;clear hd e;go_wp2_with fail
   exact hK _ _ ((yB _ _).alloc _) (by show zFo _ _ _ _;exact⟨_,rfl,World.ownsRow_lit W #[.iface 201 (.agg #[.slice va na vc])] 1 (yF _) (by unfold maxLen;omega) rfl,HRW.size⟩)
  ·have h14:zFt w W rg (vs 14):=hd 14 (by kernel_rfl)
   have h26:zFo w W (.iface 201 (.agg #[.slice va na vc])) (vs 26):=hd 26 (by kernel_rfl);obtain⟨g1,e1,o1⟩:=h14;obtain⟨g2,e2,o2⟩:=h26;rw[e1,e2] at hK ⊢;have O1:=yA o1;have O2:=yA o2;clear hd e1 e2 o1 o2;go_wp2_with fail
   exact hK _ _ (yB _ _) (by show ∃v1 v2,_;exact⟨_,_,rfl,⟨g1,rfl,O1.out⟩,g2,rfl,O2.out⟩)
 ·intro vs W hR hFF
  have HRW:Keeps zA w W:=((zF w).drew).zC hR;obtain⟨v1,v2,e27,⟨g1,rfl,o1,l1⟩,g2,rfl,o2,l2⟩:=(hFF 27 (by decide):∃v1 v2,vs 27=.agg #[(2:Int),v1,v2]/\zFt w W rg v1/\zFo w W (.iface 201 (.agg #[.slice va na vc])) v2);have e28:vs 28=_:=hFF 28 (by decide);simp only[zJ,yC,yD,yO,Option.bind,Act.put,yE,yM,yJ,yZ,yU];rw[e27,e28];clear hFF e27 e28 y d
  have hne:0<rg->g1≠g2:=λhn e=>by
   subst e;have q1:=(uB o1).cell (zAB (List.replicate rg 0) 0 (by simpa using hn));have q2:=(uB o2).cell (k:=0) rfl;rw[q1] at q2;cases q2
  have HO:Hid (W.ownsRow 0 3 1 (.slice (some ⟨g1,0,none⟩) rg rg) rg (ints (List.replicate rg 0))/\w.heap.size<=g1/\W.ownsRow 0 148 1 (.slice (some ⟨g2,0,none⟩) 1 1) 1 [.iface 201 (.agg #[.slice va na vc])]/\w.heap.size<=g2/\(0<rg->g1≠g2)):=⟨o1,l1,o2,l2,hne⟩;clear o1 o2 l1 l2 hne;go_upto_region 1 with fail
  have HW:=yA (MaP.went (i:=i) zAG HM.out (zQb (i:=i) (n:=rg) (f:=⟨bd.acts,bd.acts,1⟩) zU 2 HM.out.zP HB.out.2.2.2.2.2.2.2 HRW HO.out.1 HO.out.2.1 HO.out.2.2.1 HO.out.2.2.2.1 HO.out.2.2.2.2 ⟨_,rfl,.inl ⟨yT _,_,rfl,by rw[HN.out.2.2];exact HB.out.2.2.2.2.1.keeps HRW (λ_ _ h=>h)⟩⟩));generalize ((W.setCell ⟨gt,i*3,none⟩ (.int .i64 2)).setCell ⟨gt,i*3+1,none⟩ (.slice (some ⟨g1,0,none⟩) rg rg)).setCell ⟨gt,i*3+2,none⟩ (.slice (some ⟨g2,0,none⟩) 1 1)=w7 at HW ⊢;obtain⟨T7,H7,M7,x7,k7⟩:=HW.out;have hl7:(m.zA0 i ⟨2,List.replicate rg 0,[⟨bd.acts,bd.acts,1⟩]⟩).zP.length=m.zP.length:=zy.zB4 _ _ _;have y:=zB.zGm (show zB w7 b [_,_,_,_,_,_] from M7.row);dsimp only at y
  rw[hl7,<-HN.out.2.1] at y
  have HL:=yA (zHX (n:=bd.regs) (t:=⟨2,List.replicate rg 0,[⟨bd.acts,bd.acts,1⟩]⟩) M7.zP (i:=i) (xV HB.out.2.2.2.2.2.2.2) (u:=u) ⟨λf hf=>by
   obtain rfl:f=⟨bd.acts,bd.acts,1⟩:=by simpa using hf
   exact⟨HB.out.2.1,HB.out.2.1,by show 1<=1000;omega⟩,zBw (fs:=[]) ⟨yF _,λj f e=>by cases e⟩ (yF _) (by have:=HB.out.2.2.1;show Ac.hL bd.acts+0<=_;omega) (by have:=HB.out.2.2.1;show Ac.hL bd.acts+0<=_;omega)⟩ (by rw[HB.out.2.2.2.1];simp))
  have HX:Hid (zAT T T7 id w/\Keeps (zAk T id) w w7):=⟨x7,k7⟩;have HM7:=yA M7;clear M7 x7 k7 hl7 f0 f1 f2 s0 s1 s2 HW;have k7:=zF w7;go_wp2_with (go_at_call 68;refine HL.out.mono ?_;rintro e w8 ⟨rfl,g8⟩;have HW8:=yA g8;clear g8)
  go_returns
  refine⟨rfl,?_⟩
  have hw:=zAy.trans HX.out.1 HX.out.2 (MaP.went (i:=i) zAG HM7.out HW8.out)
  have e:(m.zA0 i ⟨2,List.replicate rg 0,[⟨bd.acts,bd.acts,1⟩]⟩).zA0 i (WTh.local ⟨2,List.replicate rg 0,[⟨bd.acts,bd.acts,1⟩]⟩)=zGb u m i:=by
   unfold zGb zFU zy.zA0;rw[HB.out.1,List.set_set,HB.out.2.2.2.1];rfl
  rwa [e] at hw
