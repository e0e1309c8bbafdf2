/- Layer D: texts joined. -/
import Derived.Test.YtoapgjjepiopbaaGreatDoorD34
set_option linter.all false
set_option maxHeartbeats 8000000
set_option maxRecDepth 8000
namespace Go.Proofs.YtoapgjjepiopbaaGreatDoor
open Go.RowKit
theorem J57(P:Prop)(h:P:=by rintro⟨a1,c1,e,h1⟩;exact⟨a1,c1,e,(h1.keeps hk (λ_ _ h=>h)).mono (λk hk'=>⟨hk'.1,yH hk'.2 hk.size⟩)⟩):P:=h
theorem J107(P:Prop) (h:P:=by
 go_wp2_with fail
 go_roundw
 case rel=>exact⟨i+1,da2,dc2,_,by omega,by go_num,rfl,HPU,HKE⟩
 case measure=>simp[intOf];omega):P:=h
theorem J126(P:Prop)(h:P:=by exact hK _ _ g1 ⟨ad2,cp2,rfl,HS1.out.mono (λk hk=>⟨yX HW9.out hk.1,hk.2⟩)⟩):P:=h
theorem J127(P:Prop) (h:P:=by
 cases xs with
 | nil=>rfl
 | cons a r=>obtain⟨g,o,e2,_⟩:=hc (by simp);rw[e] at e2;cases e2):P:=h
theorem J242(P:Prop)(h:P:=by have h1:=HB.out;have h2:=HK.out.size;omega):P:=h
theorem Ac.zEM(x:Ac):x.cnt=1+(if x.ex.there then x.ex.cnt else 0)+Ac.zT x.thn+Ac.zT x.els:=by cases x;rw[Ac.cnt];rfl
theorem Ac.zM4{l:List Ac}{a:Ac}(h:a∈l):a.cnt<=Ac.zT l:=by
 induction l with
 | nil=>cases h
 | cons x r ih =>
   simp only[Ac.zT];rcases xU.1 h with e|e
   ·subst e;omega
   ·have:=ih e;omega
theorem Ac.zIf(l:List Ac):l.length<=Ac.zT l:=by
 induction l with
 | nil=>simp
 | cons x r ih=>have:=Ac.zEM x;simp only[xM,Ac.zT];omega
theorem zKK{u:Un}(h:zX u=true){b:Bd}(hb:b∈u.threads):Ac.zT b.acts<=500:=by
 unfold zX at h;simp only[yS,yV] at h;have h9:=h.2
 have hc:∀l:List Bd,b∈l->Ac.zT b.acts<=(l.map λb=>Ac.zT b.acts).foldr (·+·) 0:=λl=>by
  exact J77 _
 have:=hc u.threads hb
 omega
structure ThX(R:zA5 WFr)(sz:Nat)(ty:TypeId)(w:World)(T:zZ)(F:Nat->Prop)(id g i:Nat)(H:List HTh)(zP:List WTh)(t:WTh)(fs:List WFr)(f:WFr)(rv:Value)(gp cap:Nat)(css:List (List Value))(cs:List Value):Prop where
 G:zAm R sz ty w T F id g H zP
 th:zP[i]?=some t
 h:H[i]?=some ⟨t.st,rv,.slice (some ⟨gp,0,none⟩) (fs.length+1) cap⟩
 regs:zBX w T id (.regs i) rv t.regs
 tag:T gp=some (id,.fs i)
 len:css.length=fs.length
 room:fs.length+1<=cap
 flat:css.flatten.length=fs.length*sz
 own:w.ownsRow 0 ty sz (.slice (some ⟨gp,0,none⟩) (fs.length+1) cap) (fs.length+1) (css.flatten++cs)
 pl:R w F f cs
 pls:∀(j:Nat)(y:WFr)(ds:List Value),fs[j]?=some y->css[j]?=some ds->R w F y ds
section
variable {R:zA5 WFr} {sz:Nat} {ty:TypeId} (L:zAU R sz) {w w':World} {T:zZ} {F:Nat->Prop} {id g i gp cap:Nat} {H:List HTh} {zP:List WTh} {t:WTh} {fs:List WFr} {f:WFr} {rv:Value} {css:List (List Value)} {cs:List Value}
namespace ThX
end ThX
end
def CpX(f:FuncId)(x:Ex):Prop:=∀(w:World)(F:Nat->Prop)(ad:Option Addr)(cap:Nat),zR w F x.args ad->x.cnt<1000000000 →
 Calls Tryz.prog f #[exV x ad cap] w λe w'=>∃ad' cap',e=.returned (exV x ad' cap')/\zR w' (Since w.heap.size w') x.args ad'/\Keeps zA w w'
theorem zB.frz{w:World}{g:Nat}{cs:List Value}(r:zB w g cs){k:Nat}(hk:k<cs.length):∀W,Keeps zA w W->W.frozen? ⟨g,k,none⟩=false:=zK (r.free hk) ⟨_,r.cell (yL hk)⟩
theorem zQj(k num:Int)(nm:ByteArray)(l:List Ex)(ih:∀y,y∈l->CpX 105 y):CpX 105 (.mk k num nm l):=by
 intro w F ad cap h hb
 have HL:Hid (zR w F l ad):=h;have IH:=yA ih;have hl:=Ex.zAe l;have hcn:Ex.cnt (.mk k num nm l)=1+Ex.zT l:=by simp[Ex.cnt]
 rw[hcn] at hb;have hb2:l.length<1000000000:=by omega
 have HB2:=yA hb;obtain⟨j0,hj0,hz0,hz1,hz2⟩:=info_parts zJm;obtain⟨b1,wA,e1,e2,R1,KA,_⟩:=newRow w [k,num,nm,.slice ad l.length cap] 144;obtain⟨b2,w1,e3,e4,R2,K1,_⟩:=newRow wA [(0:Int),(0:Int),.string { data:=#[] },.slice none 0 0] 144;have HR1:=yA (R1.keeps K1 (λh=>h));have HR2:=yA R2;have HK1:=yA (KA.zC K1);have HBB:Hid (w.heap.size<=b1/\b1<b2/\b2<w1.heap.size):=⟨by omega,by have:=R1.lt (by simp);omega,R2.lt (by simp)⟩;have y1:=(R1.keeps K1 (λh=>h)).zBF;have k1:=zF w1;obtain⟨B,hB⟩:=eX w1.heap.size;have HB:=yA hB;obtain⟨Q,hQ⟩:=eX (α:=Ending->World->Prop) (λe w'=>∃ad' cap',e=.returned (exV (.mk k num nm l) ad' cap')/\zR w' (Since w.heap.size w') (Ex.mk k num nm l).args ad'/\Keeps zA w w');rw[<-hQ];have HQ:=yA hQ;clear h ih hl hcn hb R1 R2 KA K1 hB hQ;show Calls _ _ #[.agg #[k,num,nm,.slice ad l.length cap]] _ _
 go_enter Tryz.func105,Tryz.ntmps105
 go_upto_region 1 with fail
 try rw[e1]
 try rw[e2]
 try rw[e3]
 try rw[e4]
 clear e1 e2 e3 e4;go_wp2_with fail
 go_loopw [3,9] (λv iv wr=>∃(i:Nat)(da:Option Addr)(dc:Nat)(css:List (List Value)),i<=l.length/\iv=.int .i64 i/\v=.slice da i dc/\Hid (Acc zBL (λ_=>False) B 4 144 wr (.slice da i dc) (l.take i) css)/\Hid (Keeps zA w1 wr)) (λ_ iv _=>l.length-(intOf iv).toNat)
 case atStart=>exact⟨0,none,0,[],yF _,rfl,rfl,Acc.nil w1,yB _ _⟩
 case round =>
  obtain⟨i,da,dc,css,hi,rfl,rfl,HA,HK⟩:=hrel;replace y1:=λW (q:Keeps zA wr W)=>y1 W (HK.out.zC q)
  have kr:=zF wr;by_cases hlt:i<l.length
  ·have i1:(0:Int)<=i:=by omega
   have i2:(i:Int)<l.length:=by omega
   obtain⟨g,o,a,c,e1,hg,d0,d1,d2,d3,hx⟩:=((HL.out.keeps (HK1.out.zC HK.out) (λ_ _ h=>h)):zR wr F l ad).at hlt;subst e1
   have HC:Hid (∀W,Keeps zA wr W->Calls Tryz.prog 105 #[.agg #[.int .i64 l[i].kind,.int .i64 l[i].num,.string l[i].nm,.slice a l[i].args.length c]] W λe w'=>∃ad' cap',e=.returned (exV l[i] ad' cap')/\zR w' (Since W.heap.size w') l[i].args ad'/\Keeps zA W w'):=
    λW hk=>IH.out _ (yI hlt) W F a c (hx.keeps hk (λ_ _ h=>h)) (by have:=Ex.zCP (yI hlt);have:=HB2.out;omega)
   have d:∀W,Keeps zA wr W->W.cell? ⟨g,o+i*4,none⟩=some (.int .i64 l[i].kind)/\W.cell? ⟨g,o+i*4+1,none⟩=some (.int .i64 l[i].num)/\W.cell? ⟨g,o+i*4+2,none⟩=some (.string l[i].nm)/\W.cell? ⟨g,o+i*4+3,none⟩=some (.slice a l[i].args.length c):=λW q=>⟨q.cell (λh=>h) d0,q.cell (λh=>h) d1,q.cell (λh=>h) d2,q.cell (λh=>h) d3⟩
   obtain⟨y,hy⟩:=eX (l[i]);have HY:=yA hy;rw[<-hy] at HC d;clear d0 d1 d2 d3 hx hy hg;have HLEN:Hid ((l.take i).length=i):=by show _=_;rw[List.length_take];omega
   have i3:i+1<=1000000000:=by omega
   go_upto_region 5 with fail
   obtain⟨b7,w7,e1,e2,R7,K7,_⟩:=newRow wr [y.kind,y.num,y.nm,.slice a y.args.length c] 144;try rw[e1]
   try rw[e2]
   have y7:=R7.zBF;have k7:=zF w7;have HK7:=yA K7;clear e1 e2 R7 K7 d;go_upto_region 6 with(first|(go_at_call 105;refine(HC.out _ HK7.out).mono ?_;rintro e w8 ⟨ad2,cp2,rfl,s8,g8⟩;unfold exV;have HS8:=yA s8;have HK8:=yA g8;have HA8:Hid (Acc zBL (λ_=>False) B 4 144 w8 (.slice da i dc) (l.take i) css):=HA.out.zG zIy (HK7.out.zC g8);clear s8 g8)|(at_builtin;refine zI _ (by rfl) _ _ 142 (by rfl) 0 144 j0 _ 4 56 Tryz.underlying142 hj0 hz0 hz1 hz2 rfl (by decide) (.slice da i dc) i css.flatten (by rfl) (by have h1:=HA8.out.2.1;rw[HLEN.out] at h1;exact zD h1 ((yB zA w8).alloc _) (λ_ _ h=>h)) (.slice (some ⟨w8.heap.size,0,none⟩) 1 1) 1 [.int .i64 y.kind,.int .i64 y.num,.string y.nm,.slice ad2 y.args.length cp2] (by rfl) (xE (yK (yG w8 _))) rfl (J172 _) (by unfold maxLen;omega) (by omega) (yF _) ?_;intro da2 dc2 w9 ha;have HAO:=yA ha;clear ha))
   have hk8:Keeps zA w8 (w8.alloc (.cells #[y.kind,y.num,y.nm,.slice ad2 y.args.length cp2] 144)):=(yB zA w8).alloc _;have HA9:=HA8.out.zG zIy hk8
   have hel:zBL (w8.alloc (.cells #[y.kind,y.num,y.nm,.slice ad2 y.args.length cp2] 144)) (zB1 (λ_=>False) B (w8.alloc (.cells #[y.kind,y.num,y.nm,.slice ad2 y.args.length cp2] 144)) (.slice da i dc)) y [.int .i64 y.kind,.int .i64 y.num,.string y.nm,.slice ad2 y.args.length cp2]:=by
    refine zBL.zKm ((HS8.out.keeps hk8 (λ_ _ h=>h)).mono (λk hk=>.inr ⟨?_,yH hk.2 hk8.size,λe=>?_⟩))
    ·have h1:=hk.1;have h2:=HK7.out.size;have h3:=HK.out.size;have h4:=HB.out;omega
    ·have h0:k<wr.heap.size:=zM HA.out.2.1 e
     have h1:=hk.1;have h2:=HK7.out.size;omega
   have hpush:=HA9.push zIy (λk hk=>hk.elim) (by have h1:=HK8.out.size;have h2:=HK7.out.size;have h3:=HK.out.size;have h4:=HB.out;have h5:=hk8.size;omega) hel (by decide) (ad:=da2) (cap:=dc2) (w':=w9) (J199 _);rw[HLEN.out] at hpush;have hOB:∀q,(Value.slice da i dc).ownBlock=some q->B<=q:=HA.out.2.2.1
   have hk9:Keeps zA w1 w9:=(((HK.out.zC HK7.out).zC HK8.out).zC hk8).trans (xD HAO.out (yB (λq=>(Value.slice da i dc).ownBlock=some q) _) (λq e _=>e)) (λq hq e=>by have h1:=hOB q e;have h2:=HB.out;omega)
   have HPU:Hid (Acc zBL (λ_=>False) B 4 144 w9 (.slice da2 (i+1) dc2) (l.take (i+1)) (css++[[.int .i64 y.kind,.int .i64 y.num,.string y.nm,.slice ad2 y.args.length cp2]])):=by
    rw[take_at hlt,<-HY.out];exact hpush
   have HKE:=yA hk9;clear hpush hk9 hel HA9 hk8 hOB;exact J107 _
  ·obtain rfl:i=l.length:=by omega
   have HRR:=yA (HR2.out.keeps HK.out (λh=>h));have HRX:=yA ((HR1.out.keeps HK.out (λh=>h)).set 3 (by simp) (.slice da l.length dc));have f3:=zB.frz (HR1.out.keeps HK.out (λh=>h)) (k:=3) (by simp);go_upto_region 8 with fail
   have kz:Keeps (λq=>q=b1) wr (wr.setCell ⟨b1,3,none⟩ (.slice da l.length dc)):=(yB (λq=>q=b1) wr).setCell (p:=⟨b1,3,none⟩) (λ_=>rfl) _;have rz:zB (wr.setCell ⟨b1,3,none⟩ (.slice da l.length dc)) b1 [.int .i64 k,.int .i64 num,.string nm,.slice da l.length dc]:=HRX.out;generalize wr.setCell ⟨b1,3,none⟩ (.slice da l.length dc)=wz at kz rz ⊢;have r2z:=HRR.out.keeps kz (λe=>by have e':b2=b1:=e;have:=HBB.out;omega);have HKZ:=yA kz;have HR2Z:=yA r2z;have yz:=rz.zBF;have y2z:=r2z.zBF;have f20:=r2z.frz (k:=0) (by simp);have f21:=r2z.frz (k:=1) (by simp);have f22:=r2z.frz (k:=2) (by simp);have f23:=r2z.frz (k:=3) (by simp);have kzz:=zF wz;clear y1 kr kz rz r2z f3;go_wp2_with fail
   have hrow:zB ((((wz.setCell ⟨b2,0,none⟩ (.int .i64 k)).setCell ⟨b2,1,none⟩ (.int .i64 num)).setCell ⟨b2,2,none⟩ (.string nm)).setCell ⟨b2,3,none⟩ (.slice da l.length dc)) b2 [.int .i64 k,.int .i64 num,.string nm,.slice da l.length dc]:=(((HR2Z.out.set 0 (by simp) _).set 1 (by simp) _).set 2 (by simp) _).set 3 (by simp) _;have hks:Keeps (λq=>q=b2) wz ((((wz.setCell ⟨b2,0,none⟩ (.int .i64 k)).setCell ⟨b2,1,none⟩ (.int .i64 num)).setCell ⟨b2,2,none⟩ (.string nm)).setCell ⟨b2,3,none⟩ (.slice da l.length dc)):=((((yB (λq=>q=b2) wz).setCell (p:=⟨b2,0,none⟩) (λ_=>rfl) _).setCell (p:=⟨b2,1,none⟩) (λ_=>rfl) _).setCell (p:=⟨b2,2,none⟩) (λ_=>rfl) _).setCell (p:=⟨b2,3,none⟩) (λ_=>rfl) _;generalize (((wz.setCell ⟨b2,0,none⟩ (.int .i64 k)).setCell ⟨b2,1,none⟩ (.int .i64 num)).setCell ⟨b2,2,none⟩ (.string nm)).setCell ⟨b2,3,none⟩ (.slice da l.length dc)=wE at hrow hks ⊢;refine xK (v:=.agg #[k,num,nm,.slice da l.length dc]) (by simp[results,Tryz.results105,go_sem,hrow.cell (k:=0) rfl,hrow.cell (k:=1) rfl,hrow.cell (k:=2) rfl,hrow.cell (k:=3) rfl]) rfl ?_
   have hA:=HA.out;rw[xS] at hA;obtain⟨h1,h2⟩:=hA.elems zIy (ad:=da) (n:=l.length) (cap:=dc) rfl;have h3:zR wr (λk=>False\/(B<=k/\k<wr.heap.size)) l da:=⟨_,h1,h2⟩;have hkk:Keeps (λq=>q=b1\/q=b2) wr wE:=(HKZ.out.mono (λ_ _ e=>.inl e)).trans hks (λ_ _ e=>.inr e);rw[HQ.out];refine⟨da,dc,rfl,(h3.keeps hkk (λk hk e=>?_)).mono (λk hk=>?_),?_⟩
   ·have hb:=HBB.out
    have hB:=HB.out;rcases hk with hk|hk
    ·exact hk
    ·rcases e with e|e <;> omega
   ·have hb:=HBB.out
    have hB:=HB.out;rcases hk with hk|hk
    ·exact hk.elim
    ·exact⟨by omega,yH hk.2 hkk.size⟩
   ·exact(HK1.out.zC HK.out).trans hkk (λq hq e=>by have hb:=HBB.out;rcases e with e|e <;> omega)
theorem zOo(x:Ex):CpX 105 x:=Ex.ind (λk n s l ih=>zQj k n s l ih) x
theorem zPE:(Tryz.prog.info? 146).map (λi=>(i.zero,i.size,i.bytes))=some (some (.agg #[(0:Int),(0:Int),(0:Int),(0:Int),(0:Int),zw,.slice none 0 0,(0:Int),.slice none 0 0,.slice none 0 0]),10,136):=zN8
def CpA(f:FuncId)(l:List Ac):Prop:=∀(w:World)(F:Nat->Prop)(ad:Option Addr)(cap:Nat),zAl w F l ad →
 Calls Tryz.prog f #[.slice ad l.length cap] w λe w'=>∃ad' cap',e=.returned (.slice ad' l.length cap')/\zA3 w' (Since w.heap.size w') l (.slice ad' l.length cap')/\Keeps zA w w'
theorem Acc.zSR{w:World}{B n cap:Nat}{ad:Option Addr}{xs:List Ac}{css:List (List Value)}(h:Acc AcC (λ_=>False) B 10 146 w (.slice ad n cap) xs css)(hn:n=xs.length):zA3 w (Since B w) xs (.slice ad n cap):=by
 obtain⟨h1,h2⟩:=h.elems zLL (ad:=ad) (n:=n) (cap:=cap) rfl;have hm:∀k,(False\/(B<=k/\k<w.heap.size))->Since B w k:=λk hk=>hk.elim False.elim (λh=>h)
 refine⟨ad,cap,λi=>css.getD i [],by rw[hn],?_,h1.mono hm,λi y e=>(h2 i y e).mono hm⟩
 rcases h.2.1.2 with⟨e,h0⟩|⟨g,c,cur,e,_,_,hc,_⟩
 ·rw[h0];exact yF _
 ·simp only[xH] at e
  rw[e.2.2];exact hc
theorem zM1(l:List Ac)(hb:Ac.szL l<900000000)(ih:∀l',Ac.szL l'<Ac.szL l->CpA 60 l'):CpA 60 l:=by
 intro w F ad cap h
 have HL:=yA h;have IH:=yA ih;have HBB:=yA hb;have hl:=Ac.zAe l;have hb2:l.length<1000000000:=by omega
 obtain⟨j0,hj0,hz0,hz1,hz2⟩:=info_parts zPE;have k1:=zF w;obtain⟨B,hB⟩:=eX w.heap.size;have HB:=yA hB;obtain⟨Q,hQ⟩:=eX (α:=Ending->World->Prop) (λe w'=>∃ad' cap',e=.returned (.slice ad' l.length cap')/\zA3 w' (Since w.heap.size w') l (.slice ad' l.length cap')/\Keeps zA w w');rw[<-hQ];have HQ:=yA hQ;clear h ih hl hb hB hQ;go_enter Tryz.func60,Tryz.ntmps60
 go_wp2_with fail
 go_loopw [3,8] (λv iv wr=>∃(i:Nat)(da:Option Addr)(dc:Nat)(css:List (List Value)),i<=l.length/\iv=.int .i64 i/\v=.slice da i dc/\Hid (Acc AcC (λ_=>False) B 10 146 wr (.slice da i dc) (l.take i) css)/\Hid (Keeps zA w wr)) (λ_ iv _=>l.length-(intOf iv).toNat)
 case atStart=>exact⟨0,none,0,[],yF _,rfl,rfl,Acc.nil w,yB _ _⟩
 case round =>
  obtain⟨i,da,dc,css,hi,rfl,rfl,HA,HK⟩:=hrel;have kr:=zF wr;by_cases hlt:i<l.length
  ·have i1:(0:Int)<=i:=by omega
   have i2:(i:Int)<l.length:=by omega
   obtain⟨g,o,xa,xc,ta,tc,ea,ec,e1,hg,q0,q1,q2,q3,q4,q5,q6,q7,q8,q9,hx,ht,he⟩:=((HL.out.keeps HK.out (λ_ _ h=>h)):zAl wr F l ad).at hlt;subst e1
   have d:∀W,Keeps zA wr W->W.cell? ⟨g,o+i*10,none⟩=some (.int .i64 l[i].kind)/\W.cell? ⟨g,o+i*10+1,none⟩=some (.int .i64 l[i].reg)/\W.cell? ⟨g,o+i*10+2,none⟩=some (.int .i64 l[i].obj)/\W.cell? ⟨g,o+i*10+3,none⟩=some (.int .i64 l[i].ex.kind)/\W.cell? ⟨g,o+i*10+4,none⟩=some (.int .i64 l[i].ex.num) ∧
    W.cell? ⟨g,o+i*10+5,none⟩=some (.string l[i].ex.nm)/\W.cell? ⟨g,o+i*10+6,none⟩=some (.slice xa l[i].ex.args.length xc)/\W.cell? ⟨g,o+i*10+7,none⟩=some (.int .i64 l[i].count)/\W.cell? ⟨g,o+i*10+8,none⟩=some (.slice ta l[i].thn.length tc)/\W.cell? ⟨g,o+i*10+9,none⟩=some (.slice ea l[i].els.length ec):=
    λW hk=>⟨hk.cell (λh=>h) q0,hk.cell (λh=>h) q1,hk.cell (λh=>h) q2,hk.cell (λh=>h) q3,hk.cell (λh=>h) q4,hk.cell (λh=>h) q5,hk.cell (λh=>h) q6,hk.cell (λh=>h) q7,hk.cell (λh=>h) q8,hk.cell (λh=>h) q9⟩
   obtain⟨y,hy⟩:=eX (l[i]);have HY:=yA hy;rw[<-hy] at d hx ht he;have HX:=yA hx;have HTH:=yA ht;have HEL:=yA he;have hsz:y.sz<=Ac.szL l:=Ac.zCI (by rw[hy];exact yI hlt);have hse:=Ac.zCZ y;have HSZ:Hid (Ac.szL y.thn<Ac.szL l/\Ac.szL y.els<Ac.szL l/\y.ex.cnt<1000000000):=by have:=HBB.out;exact⟨by omega,by omega,by omega⟩
   clear q0 q1 q2 q3 q4 q5 q6 q7 q8 q9 hx ht he hy hg hsz hse;have HLEN:Hid ((l.take i).length=i):=by show _=_;rw[List.length_take];omega
   have i3:i+1<=1000000000:=by omega
   go_upto_region 5 with fail
   obtain⟨b7,w7,e1,e2,R7,K7,_⟩:=newRow wr [y.kind,y.reg,y.obj,y.ex.kind,y.ex.num,y.ex.nm,.slice xa y.ex.args.length xc,y.count,.slice ta y.thn.length tc,.slice ea y.els.length ec] 146;try rw[e1]
   try rw[e2]
   have HB7:Hid (wr.heap.size<=b7/\b7<w7.heap.size):=⟨by omega,R7.lt (by simp)⟩;have y7:=R7.zq;have g3:=R7.frz (k:=3) (by simp);have g4:=R7.frz (k:=4) (by simp);have g5:=R7.frz (k:=5) (by simp);have g6:=R7.frz (k:=6) (by simp);have k7:=zF w7;have HR7:=yA R7;have HK7:=yA K7;have HCX:Hid (Calls Tryz.prog 105 #[exV y.ex xa xc] w7 λe w'=>∃ad' cap',e=.returned (exV y.ex ad' cap')/\zR w' (Since w7.heap.size w') y.ex.args ad'/\Keeps zA w7 w'):=zOo y.ex w7 F xa xc (HX.out.keeps K7 (λ_ _ h=>h)) HSZ.out.2.2;unfold exV at HCX;clear e1 e2 R7 K7 d;go_upto_region 6 with(go_at_call 105;refine HCX.out.mono ?_;rintro e w8 ⟨ax,cx,rfl,s8,k8⟩;have HS8:=yA s8;have HK8:=yA k8;clear s8)
   have R9:=(((((HR7.out.keeps HK8.out (λh=>h)).set 3 (by simp) (.int .i64 y.ex.kind)).set 4 (by simp) (.int .i64 y.ex.num)).set 5 (by simp) (.string y.ex.nm)).set 6 (by simp) (.slice ax y.ex.args.length cx));have R9:zB ((((w8.setCell ⟨b7,3,none⟩ (.int .i64 y.ex.kind)).setCell ⟨b7,4,none⟩ (.int .i64 y.ex.num)).setCell ⟨b7,5,none⟩ (.string y.ex.nm)).setCell ⟨b7,6,none⟩ (.slice ax y.ex.args.length cx)) b7 [.int .i64 y.kind,.int .i64 y.reg,.int .i64 y.obj,.int .i64 y.ex.kind,.int .i64 y.ex.num,.string y.ex.nm,.slice ax y.ex.args.length cx,.int .i64 y.count,.slice ta y.thn.length tc,.slice ea y.els.length ec]:=R9;have K9:Keeps (λq=>q=b7) w8 ((((w8.setCell ⟨b7,3,none⟩ (.int .i64 y.ex.kind)).setCell ⟨b7,4,none⟩ (.int .i64 y.ex.num)).setCell ⟨b7,5,none⟩ (.string y.ex.nm)).setCell ⟨b7,6,none⟩ (.slice ax y.ex.args.length cx)):=((((yB (λq=>q=b7) w8).setCell (p:=⟨b7,3,none⟩) (λ_=>rfl) _).setCell (p:=⟨b7,4,none⟩) (λ_=>rfl) _).setCell (p:=⟨b7,5,none⟩) (λ_=>rfl) _).setCell (p:=⟨b7,6,none⟩) (λ_=>rfl) _;generalize (((w8.setCell ⟨b7,3,none⟩ (.int .i64 y.ex.kind)).setCell ⟨b7,4,none⟩ (.int .i64 y.ex.num)).setCell ⟨b7,5,none⟩ (.string y.ex.nm)).setCell ⟨b7,6,none⟩ (.slice ax y.ex.args.length cx)=w9 at R9 K9 ⊢;have HR9:=yA R9;have HX9:Hid (zR w9 (Since w7.heap.size w9) y.ex.args ax):=(HS8.out.keeps K9 (λq hq e=>by have e':q=b7:=e;have:=HB7.out.2;have:=hq.1;omega)).mono (λq hq=>⟨hq.1,yH hq.2 K9.size⟩);have HK79:Hid (w7.heap.size<=w9.heap.size):=yX HK8.out.size K9.size;have HKR9:Hid (Keeps zA wr w9):=(HK7.out.zC HK8.out).trans K9 (λq hq e=>by have e':q=b7:=e;have:=HB7.out.1;omega);have y9:=R9.zq;have k9:=zF w9;have HCT:Hid (∀W,Keeps zA w9 W->Calls Tryz.prog 60 #[.slice ta y.thn.length tc] W λe w'=>∃ad' cap',e=.returned (.slice ad' y.thn.length cap')/\zA3 w' (Since W.heap.size w') y.thn (.slice ad' y.thn.length cap')/\Keeps zA W w'):=λW hk=>IH.out y.thn HSZ.out.1 W F ta tc (HTH.out.keeps (HKR9.out.zC hk) (λ_ _ h=>h))
   have HCE:Hid (∀W,Keeps zA w9 W->Calls Tryz.prog 60 #[.slice ea y.els.length ec] W λe w'=>∃ad' cap',e=.returned (.slice ad' y.els.length cap')/\zA3 w' (Since W.heap.size w') y.els (.slice ad' y.els.length cap')/\Keeps zA W w'):=λW hk=>IH.out y.els HSZ.out.2.1 W F ea ec (HEL.out.keeps (HKR9.out.zC hk) (λ_ _ h=>h))
   clear R9 K9 y7 g3 g4 g5 g6 k7 kr HR7 HCX;refine zW 7 (by kernel_rfl) (by kernel_rfl) (Keeps zA) (yB zA) (λa b c h h'=>xJ h h') (zAz [some (.pointer (some ⟨b7,8,none⟩)),some (.slice ta y.thn.length tc),none,some (.pointer (some ⟨b7,9,none⟩)),some (.slice ea y.els.length ec),none,some (.pointer (some ⟨b7,8,none⟩))] (λj v W=>match j with|2=>∃ad' cap',v=.slice ad' y.thn.length cap'/\zA3 W (Since w9.heap.size W) y.thn v|_=>∃ad' cap',v=.slice ad' y.els.length cap'/\zA3 W (Since w9.heap.size W) y.els v)) (vQ (λj v W W' h hk=>by
   revert h
   split
   ·exact J57 _
   ·rintro⟨a1,c1,e,h1⟩;exact⟨a1,c1,e,(h1.keeps hk (λ_ _ h=>h)).mono (λk hk'=>⟨hk'.1,yH hk'.2 hk.size⟩)⟩)) ?_ ?_
   ·intro q oo hq ho vs W Q' hR hd hK
    have HRW:Keeps zA w9 W:=((zF w9).drew).zC hR;rcases (show q=0\/q=1\/q=2\/q=3\/q=4\/q=5\/q=6 by omega) with rfl|rfl|rfl|rfl|rfl|rfl|rfl
    all_goals (simp only[yC,yD,yN] at ho;subst ho;simp only[zJ,yC,yD,yO,Option.bind,Act.put,yE,yM,yJ] at hK ⊢;clear hq)
    all_goals try((try(have e:vs 0=_:=hd 0 (by decide +kernel);rw[e] at hK ⊢;clear e));(try(have e:vs 1=_:=hd 1 (by decide +kernel);rw[e] at hK ⊢;clear e));(try(have e:vs 3=_:=hd 3 (by decide +kernel);rw[e] at hK ⊢;clear e));(try(have e:vs 4=_:=hd 4 (by decide +kernel);rw[e] at hK ⊢;clear e));(try(have e:vs 6=_:=hd 6 (by decide +kernel);rw[e] at hK ⊢;clear e));clear hd;go_wp2_with (fail);first|exact hK _ _ (yB _ _) rfl)
    ·have e:vs 1=_:=hd 1 (by kernel_rfl)
     rw[e] at hK ⊢;clear hd e;have HW9:Hid (w9.heap.size<=W.heap.size):=HRW.size;go_wp2_with (go_at_call 60;refine(HCT.out _ HRW).mono ?_;rintro e W1 ⟨ad2,cp2,rfl,s1,g1⟩;have HS1:=yA s1;clear s1)
     exact J126 _
    ·have e:vs 4=_:=hd 4 (by kernel_rfl)
     rw[e] at hK ⊢;clear hd e;have HW9:Hid (w9.heap.size<=W.heap.size):=HRW.size;go_wp2_with (go_at_call 60;refine(HCE.out _ HRW).mono ?_;rintro e W1 ⟨ad2,cp2,rfl,s1,g1⟩;have HS1:=yA s1;clear s1)
     exact J126 _
   ·intro vs W hR hFF
    have HRW:Keeps zA w9 W:=((zF w9).drew).zC hR;obtain⟨at1,ct1,e2,hs2⟩:=(hFF 2 (by decide):∃ad' cap',vs 2=.slice ad' y.thn.length cap'/\zA3 W (Since w9.heap.size W) y.thn (vs 2));obtain⟨ae1,ce1,e5,hs5⟩:=(hFF 5 (by decide):∃ad' cap',vs 5=.slice ad' y.els.length cap'/\zA3 W (Since w9.heap.size W) y.els (vs 5));have e6:vs 6=_:=hFF 6 (by decide);simp only[zJ,yC,yD,yO,Option.bind,Act.put,yE,yM,yJ,yZ,yU];rw[e6];rw[e2] at hs2 ⊢;rw[e5] at hs5 ⊢;have HS2:=yA hs2;have HS5:=yA hs5;have HRX:=yA HRW;have f8:=λW' (q:Keeps zA W W')=>HR9.out.frz (k:=8) (by simp) W' (HRX.out.zC q)
    have f9:=λW' (q:Keeps zA W W')=>HR9.out.frz (k:=9) (by simp) W' (HRX.out.zC q)
    have yW:=(HR9.out.keeps HRW (λh=>h)).zq;have kW:=zF W;clear hFF e2 e5 e6 hs2 hs5 y9 k9 hR HRW;go_upto_region 7 with fail
    have RX:zB ((W.setCell ⟨b7,8,none⟩ (.slice at1 y.thn.length ct1)).setCell ⟨b7,9,none⟩ (.slice ae1 y.els.length ce1)) b7 [.int .i64 y.kind,.int .i64 y.reg,.int .i64 y.obj,.int .i64 y.ex.kind,.int .i64 y.ex.num,.string y.ex.nm,.slice ax y.ex.args.length cx,.int .i64 y.count,.slice at1 y.thn.length ct1,.slice ae1 y.els.length ce1]:=((HR9.out.keeps HRX.out (λh=>h)).set 8 (by simp) _).set 9 (by simp) _;have KX:Keeps (λq=>q=b7) W ((W.setCell ⟨b7,8,none⟩ (.slice at1 y.thn.length ct1)).setCell ⟨b7,9,none⟩ (.slice ae1 y.els.length ce1)):=((yB (λq=>q=b7) W).setCell (p:=⟨b7,8,none⟩) (λ_=>rfl) _).setCell (p:=⟨b7,9,none⟩) (λ_=>rfl) _;generalize (W.setCell ⟨b7,8,none⟩ (.slice at1 y.thn.length ct1)).setCell ⟨b7,9,none⟩ (.slice ae1 y.els.length ce1)=wx at RX KX ⊢;have yx:=RX.zq;have kx:=zF wx;have HKX:=yA KX;have HKRX:Hid (Keeps zA wr wx):=(HKR9.out.zC HRX.out).trans KX (λq hq e=>by have e':q=b7:=e;have:=HB7.out.1;omega);have HAX:=yA (HA.out.zG zLL HKRX.out);clear RX KX yW f8 f9 kW;go_upto_region 8 with(at_builtin;refine zI _ (by rfl) _ _ 46 (by rfl) 0 146 j0 _ 10 136 kK hj0 hz0 hz1 hz2 rfl (by decide) (.slice da i dc) i css.flatten (by rfl) (by have h1:=HAX.out.2.1;rw[HLEN.out] at h1;exact zD h1 ((yB zA wx).alloc _) (λ_ _ h=>h)) (.slice (some ⟨wx.heap.size,0,none⟩) 1 1) 1 [.int .i64 y.kind,.int .i64 y.reg,.int .i64 y.obj,.int .i64 y.ex.kind,.int .i64 y.ex.num,.string y.ex.nm,.slice ax y.ex.args.length cx,.int .i64 y.count,.slice at1 y.thn.length ct1,.slice ae1 y.els.length ce1] (by rfl) (xE (yK (yG wx _))) rfl (J184 _) (by unfold maxLen;omega) (by omega) (yF _) ?_;intro da2 dc2 wz ha;have HAO:=yA ha;clear ha)
    obtain⟨cs,hcs⟩:∃cs,cs=[Value.int .i64 y.kind,.int .i64 y.reg,.int .i64 y.obj,.int .i64 y.ex.kind,.int .i64 y.ex.num,.string y.ex.nm,.slice ax y.ex.args.length cx,.int .i64 y.count,.slice at1 y.thn.length ct1,.slice ae1 y.els.length ce1]:=⟨_,rfl⟩
    have HAO2:Hid (zn (wx.alloc (.cells cs.toArray 146)) 0 146 10 (.slice da i dc) (i+1) (css.flatten++cs) da2 dc2 wz):=by rw[hcs];exact HAO.out
    have hka:Keeps zA wx (wx.alloc (.cells cs.toArray 146)):=(yB zA wx).alloc _;generalize wx.alloc (.cells cs.toArray 146)=wa at HAO2 hka;have hB1:B<=wr.heap.size:=J242 _;have hown:∀q,(Value.slice da i dc).ownBlock=some q->q<wr.heap.size:=λq e=>zM HA.out.2.1 e
    have hW:W.heap.size<=wx.heap.size:=HKX.out.size;have hin:∀q,w7.heap.size<=q/\q<wx.heap.size->zB1 (λ_=>False) B wa (.slice da i dc) q:=λq hq=>.inr ⟨by have:=HK7.out.size;omega,yH hq.2 hka.size,λe=>by have h1:=hown q e;have:=HK7.out.size;omega⟩
    have hnb:∀q,w7.heap.size<=q->¬q=b7:=λq hq e=>by have:=HB7.out.2;omega
    have hel:AcC wa (zB1 (λ_=>False) B wa (.slice da i dc)) y cs:=by
     rw[hcs];refine AcC.zF1 y ?_ ?_ ?_
     ·exact(((HX9.out.keeps HRX.out (λ_ _ h=>h)).keeps HKX.out (λq hq e=>hnb q hq.1 e)).keeps hka (λ_ _ h=>h)).mono (λq hq=>hin q ⟨hq.1,by have h1:=hq.2;have h2:=HRX.out.size;omega⟩)
     ·exact((HS2.out.keeps HKX.out (λq hq e=>hnb q (yX HK79.out hq.1) e)).keeps hka (λ_ _ h=>h)).mono (λq hq=>hin q ⟨yX HK79.out hq.1,by have h1:=hq.2;omega⟩)
     ·exact((HS5.out.keeps HKX.out (λq hq e=>hnb q (yX HK79.out hq.1) e)).keeps hka (λ_ _ h=>h)).mono (λq hq=>hin q ⟨yX HK79.out hq.1,by have h1:=hq.2;omega⟩)
    have hpush:=(HAX.out.zG zLL hka).push zLL (λk hk=>hk.elim) (by have h1:=HKRX.out.size;have h2:=hka.size;omega) hel (by decide) (ad:=da2) (cap:=dc2) (w':=wz) (by rw[HLEN.out];exact HAO2.out);rw[HLEN.out] at hpush;have hOB:∀q,(Value.slice da i dc).ownBlock=some q->B<=q:=HA.out.2.2.1
    have hk9:Keeps zA w wz:=(((HK.out.zC HKRX.out).zC hka)).trans (xD HAO2.out (yB (λq=>(Value.slice da i dc).ownBlock=some q) _) (λq e _=>e)) (λq hq e=>by have h1:=hOB q e;have h2:=HB.out;omega)
    have HPU:Hid (Acc AcC (λ_=>False) B 10 146 wz (.slice da2 (i+1) dc2) (l.take (i+1)) (css++[cs])):=by
     rw[take_at hlt,<-HY.out];exact hpush
    have HKE:=yA hk9;clear hpush hk9 hel hka hOB hin hnb hW hown hB1 hcs HAO2 yx kx;exact J107 _
  ·obtain rfl:i=l.length:=by omega
   go_wp2_with fail
   have hA:=HA.out;rw[xS] at hA;rw[HQ.out];exact⟨da,dc,rfl,by rw[<-HB.out];exact hA.zSR rfl,HK.out⟩
theorem zOk:∀(N:Nat)(l:List Ac),Ac.szL l<=N->N<900000000->CpA 60 l:=by
 intro N
 induction N with
 | zero=>intro l h hN;exact zM1 l (by omega) (λl' h'=>absurd h' (by omega))
 | succ N ih=>intro l h hN;exact zM1 l (by omega) (λl' h'=>ih l' (by omega) (by omega))
theorem zNd(xs:List Int):∀u∈ints xs,u.oneCell'=true:=by
 intro u hu
 simp only[ints,List.mem_map] at hu;obtain⟨k,_,rfl⟩:=hu;rfl
theorem zBl(w:World)(v:Value)(xs:List Int)(h:zl w v xs.length (ints xs))(hb:xs.length*8<=140737488355328):
 Calls Tryz.prog 59 #[v] w (zBb 3 1 w xs.length (ints xs)):=by
 obtain⟨i0,hi0,hz0,hz1,hz2⟩:=info_parts zBI;have HS:=yA h;obtain⟨ad,cap,rfl,hc⟩:=h
 have h0:ad=none->xs=[]:=λe=>by
  exact J127 _
 clear hc;cases ad with
 | none =>
   obtain rfl:=h0 rfl;have hnil:∀W,(binOp .eql 22 (.slice none 0 cap) (.slice none 0 0)).run Tryz.prog W=.ok (.bool true) W:=λW=>Lib.run_eql_slice_nil_nil W _ _ Tryz.underlying22
   go_enter Tryz.func59,Tryz.ntmps59
   go_wp2
   go_ret
   exact⟨none,0,rfl,World.ownsRow_nil _ _ _ _,yB _ _,λkb e=>by exact J170 _⟩
 | some a =>
   clear h0;obtain⟨n,hn⟩:=eX xs.length;have HL:Hid ((ints xs).length=n*1):=by show _=_;rw[zAf,hn,Nat.mul_one]
   rw[<-hn] at HS hb ⊢;have HB:Hid (n*8<=140737488355328):=hb;clear hb hn;have hnil:∀W,(binOp .eql 22 (.slice (some a) n cap) (.slice none 0 0)).run Tryz.prog W=.ok (.bool false) W:=λW=>Lib.run_eql_slice_some_nil W _ _ _ Tryz.underlying22
   go_enter Tryz.func59,Tryz.ntmps59
   go_wp2_with (at_builtin;refine zI _ (by rfl) _ _ 22 (by rfl) 0 3 i0 _ 1 8 Tryz.underlying22 hi0 hz0 hz1 hz2 rfl (by decide) (.slice (some ⟨w.heap.size,0,none⟩) 0 0) 0 [] (by rfl) (World.ownsRow_lit w #[] 0 (yF _) (by unfold maxLen;omega) rfl) (.slice (some a) n cap) n (ints xs) (by rfl) (HS.out.keeps (S:=zA) ((yB _ _).alloc _) (λ_ _ h=>h)) HL.out (zNd xs) (by have:=HB.out;unfold maxLen;omega) (by have:=HB.out;omega) (yF _) ?_;intro ad' cap' w6 hout;have HO:=yA hout;clear hout)
   go_ret
   have hO:=HO.out;refine⟨ad',cap',by simp,?_,hO.keeps ((yB _ _).alloc _) (λk e hlt=>by exact J236 _),λkb e=>?_⟩
   ·exact J106 _
   ·exact J66 _
theorem zJx(w:World)(g n cap:Nat)(hn:n<=cap)(hm:cap<=maxLen):
 Calls Tryz.prog 69 #[.slice (some ⟨g,0,none⟩) n cap] w λe w'=>e=.returned (.slice (some ⟨g,0,none⟩) n n)/\w'=w:=by
 have h1:(0:Int)<=n:=by omega
 have h2:(n:Int)<=cap:=by omega
 have h3:(cap:Int)<=9223372036854775807:=by unfold maxLen at hm;omega
 go_enter Tryz.func69,Tryz.ntmps69
 go_wp2
 go_ret
 exact⟨by simp,rfl⟩
theorem zKT(w:World):
 Calls Tryz.prog 69 #[.slice none 0 0] w λe w'=>e=.returned (.slice none 0 0)/\w'=w:=by
 go_enter Tryz.func69,Tryz.ntmps69
 go_wp2
 go_ret
 exact⟨by simp,rfl⟩
theorem zDJ(w:World)(ad:Option Addr)(n cap:Nat)(xs:List Int)(h:w.ownsRow 0 3 1 (.slice ad n cap) n (ints xs)):
 Calls Tryz.prog 69 #[.slice ad n cap] w λe w'=>e=.returned (.slice ad n n)/\w'=w:=by
 rcases h.2 with⟨e,rfl⟩|⟨g,cap',cur,e,_,_,h1,h2,_⟩
 ·cases e;exact zKT w
 ·cases e;exact zJx w g n cap h1 h2
def BdL:zA5 Bd:=λw F b cs=>∃ad cap,cs=[.int .i64 b.regs,.slice ad b.acts.length cap]/\zA3 w F b.acts (.slice ad b.acts.length cap)
theorem zKy:zAU BdL 2:=⟨λh hk hS=>by obtain⟨ad,cap,e,h1⟩:=h;exact⟨ad,cap,e,h1.keeps hk hS⟩,λh hF=>by obtain⟨ad,cap,e,h1⟩:=h;exact⟨ad,cap,e,h1.mono hF⟩,λh=>by obtain⟨ad,cap,e,_⟩:=h;rw[e];rfl⟩
theorem Acc.zSQ{w:World}{B n cap:Nat}{ty:TypeId}{ad:Option Addr}{bs:List Bd}{css:List (List Value)}(h:Acc BdL (λ_=>False) B 2 ty w (.slice ad n cap) bs css):zBk w (Since B w) bs ad:=by
 obtain⟨h1,h2⟩:=h.elems zKy (ad:=ad) (n:=n) (cap:=cap) rfl;have hm:∀k,(False\/(B<=k/\k<w.heap.size))->Since B w k:=λk hk=>hk.elim False.elim (λh=>h)
 intro i hi
 obtain⟨g,o,e,hg,hl,hc⟩:=h1 i hi;obtain⟨ba,bc,hR',hs⟩:=h2 i bs[i] (yL hi);have hc0:=hc 0 (.int .i64 bs[i].regs) (by show(css.getD i [])[_]?=_;rw[hR'];rfl);have hc1:=hc 1 (.slice ba bs[i].acts.length bc) (by show(css.getD i [])[_]?=_;rw[hR'];rfl);refine⟨g,o,_,e,hm g hg,hc0,?_,hs.mono hm⟩
 rw[uI];exact hc1
def zJM(T:zZ)(id:Nat)(t:WTg)(v:Value):zZ:=match v.ownBlock with
 | some g=>zC7 T id t g
 | none=>T
theorem zJa{T:zZ}{id:Nat}{t:WTg}{v:Value}{w:World}(h:∀g,v.ownBlock=some g->T g=none/\w.heap.size<=g):zAT T (zJM T id t v) id w:=by
 unfold zJM;cases e:v.ownBlock with
 | none=>exact vL T id w
 | some g=>exact zCp (.inr (h g e))
theorem zJd{T:zZ}{id:Nat}{t:WTg}{v:Value}{g:Nat}(h:v.ownBlock=some g):zJM T id t v g=some (id,t):=by
 unfold zJM;rw[h];exact zDE _ _ _ _
theorem zK9{T:zZ}{id:Nat}{t:WTg}{v:Value}{k:Nat}(h:v.ownBlock≠some k):zJM T id t v k=T k:=by
 unfold zJM;cases e:v.ownBlock with
 | none=>rfl
 | some g =>
   show zC7 T id t g k=T k
   unfold zC7;rw[if_neg (λq=>h (by rw[e,q]))]
theorem zLI{T:zZ}{id:Nat}{t:WTg}{g k:Nat}(h:k≠g):zC7 T id t g k=T k:=if_neg h
def zDd:HTh:=⟨1,.slice none 0 0,.slice none 0 0⟩
theorem zBX.own{w:World}{T:zZ}{id:Nat}{t:WTg}{ad:Option Addr}{cap:Nat}{xs:List Int}{e:TypeId}(h:w.ownsRow 0 e 1 (.slice ad xs.length cap) xs.length (ints xs))(hT:∀g,(Value.slice ad xs.length cap).ownBlock=some g->T g=some (id,t)):zBX w T id t (.slice ad xs.length cap) xs:=
 zBX.of h hT ⟨_,_,rfl⟩
theorem MaP.make{R:zA5 WFr}{sz:Nat}{ty:TypeId}{B:zC0}{w W:World}{T:zZ}{F:Nat->Prop}{id bm:Nat}{u:Un}{p:zB8}{m:zy}{n:Nat}{ei:TypeId}(hT:∀k x,T k=some x->k<w.heap.size)(hw:w.heap.size<=W.heap.size)
 (hrow:zB W bm (p.row u.threads.length m.cells.length m.owners.length m.zP.length)) (hm:m.zP=List.replicate n ⟨1,[],[]⟩)
 (hc:W.ownsRow 0 ei 1 (.slice p.cad m.cells.length p.ccap) m.cells.length (ints m.cells)) (ho:W.ownsRow 0 ei 1 (.slice p.oad m.owners.length p.ocap) m.owners.length (ints m.owners))
 (ht:zB W p.gt (zAR (List.replicate n zDd))) (hb:B W F u.threads p.ut) (hF:∀k,F k->w.heap.size<=k/\k<W.heap.size/\k≠bm/\k≠p.gt/\(Value.slice p.cad m.cells.length p.ccap).ownBlock≠some k/\(Value.slice p.oad m.owners.length p.ocap).ownBlock≠some k)
 (l1:w.heap.size<=bm) (l2:w.heap.size<=p.gt) (l3:∀g,(Value.slice p.cad m.cells.length p.ccap).ownBlock=some g->w.heap.size<=g/\g≠bm/\g≠p.gt) (l4:∀g,(Value.slice p.oad m.owners.length p.ocap).ownBlock=some g->w.heap.size<=g/\g≠bm/\g≠p.gt/\(Value.slice p.cad m.cells.length p.ccap).ownBlock≠some g)
 (l5:bm≠p.gt) (l6:bm<W.heap.size) (l7:p.gt<W.heap.size):∃T',MaP R sz ty B W T' F id bm u p m (List.replicate n zDd)/\zAT T T' id w:=by
 have hn:∀k,w.heap.size<=k->T k=none:=λk hk=>by
  cases e:T k with
  | none=>rfl
  | some x=>have:=hT k x e;omega
 obtain⟨cv,hcv⟩:=eX (Value.slice p.cad m.cells.length p.ccap);obtain⟨ov,hov⟩:=eX (Value.slice p.oad m.owners.length p.ocap);rw[<-hcv] at hc l3 l4 hF;rw[<-hov] at ho l4 hF;obtain⟨T1,h1⟩:=eX (zC7 T id .mach bm);obtain⟨T2,h2⟩:=eX (zC7 T1 id .zP p.gt);obtain⟨T3,h3⟩:=eX (zJM T2 id .cells cv);obtain⟨T4,h4⟩:=eX (zJM T3 id .owners ov);have e1:∀k,k≠bm->T1 k=T k:=λk hk=>by rw[h1];exact zLI hk
 have e2:∀k,k≠p.gt->T2 k=T1 k:=λk hk=>by rw[h2];exact zLI hk
 have e3:∀k,cv.ownBlock≠some k->T3 k=T2 k:=λk hk=>by rw[h3];exact zK9 hk
 have e4:∀k,ov.ownBlock≠some k->T4 k=T3 k:=λk hk=>by rw[h4];exact zK9 hk
 have x1:zAT T T1 id w:=by rw[h1];exact zCp (.inr ⟨hn bm l1,l1⟩)
 have x2:zAT T1 T2 id w:=by rw[h2];exact zCp (.inr ⟨by rw[e1 _ (λe=>l5 e.symm)];exact hn _ l2,l2⟩)
 have x3:zAT T2 T3 id w:=by rw[h3];exact zJa (λg hg=>by obtain⟨a,b,c⟩:=l3 g hg;exact⟨by rw[e2 g c,e1 g b];exact hn g a,a⟩)
 have x4:zAT T3 T4 id w:=by rw[h4];exact zJa (λg hg=>by obtain⟨a,b,c,d⟩:=l4 g hg;exact⟨by rw[e3 g d,e2 g c,e1 g b];exact hn g a,a⟩)
 have hx:zAT T T4 id w:=((x1.trans x2 (yT _)).trans x3 (yT _)).trans x4 (yT _);have t1:T4 bm=some (id,.mach):=x4.1 _ _ (x3.1 _ _ (x2.1 _ _ (by rw[h1];exact zDE _ _ _ _)));have t2:T4 p.gt=some (id,.zP):=x4.1 _ _ (x3.1 _ _ (by rw[h2];exact zDE _ _ _ _));have t3:∀g,cv.ownBlock=some g->T4 g=some (id,.cells):=λg hg=>x4.1 _ _ (by rw[h3];exact zJd hg)
 have t4:∀g,ov.ownBlock=some g->T4 g=some (id,.owners):=λg hg=>by rw[h4];exact zJd hg
 have hsep:zFu W T4 F:=by
  refine⟨λk x e=>?_,λk hk=>?_,λk hk=>(hF k hk).2.1⟩
  ·by_cases c4:ov.ownBlock=some k
   ·exact zM ho c4
   ·rw[e4 k c4] at e
    by_cases c3:cv.ownBlock=some k
    ·exact zM hc c3
    ·rw[e3 k c3] at e
     by_cases c2:k=p.gt
     ·rw[c2];exact l7
     ·rw[e2 k c2] at e
      by_cases c1:k=bm
      ·rw[c1];exact l6
      ·rw[e1 k c1] at e
       exact yH (hT k x e) hw
  ·obtain⟨a,_,b,c,d,f⟩:=hF k hk
   rw[e4 k f,e3 k d,e2 k c,e1 k b];exact hn k a
 refine⟨T4,⟨t1,hrow,?_,?_,⟨t2,hsep,ht,by rw[hm];simp,λi h t a b=>?_⟩,hb⟩,hx⟩
 ·rw[hcv] at hc t3
  exact zBX.own hc t3
 ·rw[hov] at ho t4
  exact zBX.own ho t4
 ·rw[hm] at b
  obtain⟨_,rfl⟩:=kY.1 (List.mem_of_getElem? b);obtain⟨_,rfl⟩:=kY.1 (List.mem_of_getElem? a);exact⟨rfl,⟨none,0,rfl,λh=>absurd rfl h⟩,[],rfl,World.ownsRow_nil _ _ _ _,λkb e=>by simp[zDd,Value.ownBlock] at e,⟨none,0,rfl⟩,λj f cs e=>by simp at e⟩
