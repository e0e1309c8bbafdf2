/- Layer K: texts joined. -/
import Derived.Test.YtfokdllgnblamaaGreatDoorK27
set_option linter.all false
set_option maxHeartbeats 8000000
set_option maxRecDepth 8000
namespace Go.Proofs.YtfokdllgnblamaaGreatDoor
open Go.RowKit
theorem J63 (P:Prop) (h:P:=by rintro ⟨a1,c1,e,h1⟩;exact ⟨a1,c1,e,(h1.keeps hk (fun _ _ h=>h)).mono (fun k hk'=>⟨hk'.1,yI hk'.2 hk.size⟩)⟩):P:=h
theorem J118 (P:Prop) (h:P:=by
 go_wp2_with fail
 go_roundw
 case rel=>exact ⟨i+1,da2,dc2,_,by omega,by go_num,rfl,HPU,HKE⟩
 case measure=>simp [intOf];omega):P:=h
theorem J138 (P:Prop) (h:P:=by exact hK _ _ g1 ⟨ad2,cp2,rfl,HS1.out.mono (fun k hk=>⟨yX HW9.out hk.1,hk.2⟩)⟩):P:=h
theorem J214 (P:Prop) (h:P:=by have e':q=b7:=e;have:=HB7.out.1;omega):P:=h
theorem J261 (P:Prop) (h:P:=by have h1:=HB.out;have h2:=HK.out.size;omega):P:=h
theorem zB6.mono {F F':Nat -> Prop} {w:World} {x:Ac} {cs:List Value} (h:zB6 w F x cs) (hF:∀ k,F k -> F' k):zB6 w F' x cs:=by
 induction h with
 | mk k reg obj ex count t e xs ta ea tc ec tss ess hx t0 _ e0 _ ih1 ih2=>exact .mk k reg obj ex count t e xs ta ea tc ec tss ess (hx.mono hF) (t0.mono hF) ih1 (e0.mono hF) ih2
theorem zAQ.mono {F F':Nat -> Prop} {w:World} {l:List Ac} {ad:Option Addr} (h:zAQ w F l ad) (hF:∀ k,F k -> F' k):zAQ w F' l ad:=by
 exact J94 _
theorem Ac.zEE (x:Ac):x.cnt=1+(if x.ex.there then x.ex.cnt else 0)+Ac.zW x.thn+Ac.zW x.els:=by cases x;rw [Ac.cnt];rfl
theorem Ac.zMP {l:List Ac} {a:Ac} (h:a ∈ l):a.cnt <= Ac.zW l:=by
 induction l with
 | nil=>cases h
 | cons x r ih =>
   simp only [Ac.zW];rcases xX.1 h with e | e
   ·subst e;omega
   ·have:=ih e;omega
theorem Ac.zHv (l:List Ac):l.length <= Ac.zW l:=by
 induction l with
 | nil=>simp
 | cons x r ih=>have:=Ac.zEE x;simp only [xZ,Ac.zW];omega
theorem zJM {u:Un} (h:zX u=true) {b:Bd} (hb:b ∈ u.threads):Ac.zW b.acts <= 500:=by
 unfold zX at h;simp only [yT,yU] at h;have h9:=h.2
 have hc:∀ l:List Bd,b ∈ l -> Ac.zW b.acts <= (l.map fun b=>Ac.zW b.acts).foldr (·+·) 0:=fun l=>by
  exact J82 _
 have:=hc u.threads hb
 omega
def zA8:zBA WFr:=fun w F f cs=>∃ (ad:Option Addr) (cap at_:Nat),cs=[.slice ad f.all.length cap, .int .i64 at_, .int .i64 f.left] /\ zAQ w F f.all ad /\ f.rest=f.all.drop at_ /\ at_ <= f.all.length /\ Ac.zW f.all <= 1000
theorem zR:zAX zA8 3:=⟨fun h hk hS=>by obtain ⟨ad,cap,a,e,h1,h2⟩:=h;exact ⟨ad,cap,a,e,h1.keeps hk hS,h2⟩,
 fun h hF=>by obtain ⟨ad,cap,a,e,h1,h2⟩:=h;exact ⟨ad,cap,a,e,h1.mono hF,h2⟩,fun h=>by obtain ⟨ad,cap,a,e,_⟩:=h;rw [e];rfl⟩
structure ThX (R:zBA WFr) (sz:Nat) (ty:TypeId) (w:World) (T:zS) (F:Nat -> Prop) (id g i:Nat) (H:List HTh) (zM:List WTh) (t:WTh) (fs:List WFr) (f:WFr) (rv:Value) (gp cap:Nat) (css:List (List Value)) (cs:List Value):Prop where
 G:zAV R sz ty w T F id g H zM
 th:zM[i]?=some t
 h:H[i]?=some ⟨t.st,rv, .slice (some ⟨gp,0,none⟩) (fs.length+1) cap⟩
 regs:zBQ w T id (.regs i) rv t.regs
 tag:T gp=some (id, .fs i)
 len:css.length=fs.length
 room:fs.length+1 <= cap
 flat:css.flatten.length=fs.length*sz
 own:w.ownsRow 0 ty sz (.slice (some ⟨gp,0,none⟩) (fs.length+1) cap) (fs.length+1) (css.flatten++cs)
 pl:R w F f cs
 pls:∀ (j:Nat) (y:WFr) (ds:List Value),fs[j]?=some y -> css[j]?=some ds -> R w F y ds
section
variable {R:zBA WFr} {sz:Nat} {ty:TypeId} (L:zAX R sz) {w w':World} {T:zS} {F:Nat -> Prop} {id g i gp cap:Nat} {H:List HTh} {zM:List WTh} {t:WTh} {fs:List WFr} {f:WFr} {rv:Value} {css:List (List Value)} {cs:List Value}
include L in
theorem zAV.zIU (h:zAV R sz ty w T F id g H zM) (ht:zM[i]?=some t) (hf:t.fs=fs++[f]) :
 ∃ rv gp cap css cs,ThX R sz ty w T F id g i H zM t fs f rv gp cap css cs:=by
 obtain ⟨rv,fv,hH,hr,hfs⟩:=h.get ht;rw [hf] at hfs;obtain ⟨gp,cap,css,cs,rfl,h1,h2,h3,h4,h5,h6,h7,h8,_⟩:=zBV.split L hfs;exact ⟨rv,gp,cap,css,cs,h,ht,hH,hr,h1,h2,h8,h3,h5,h6,h7⟩
namespace ThX
include L in
theorem zD (h:ThX R sz ty w T F id g i H zM t fs f rv gp cap css cs) (hk:Keeps zA w w'):ThX R sz ty w' T F id g i H zM t fs f rv gp cap css cs :=
 ⟨vN L h.G hk (fun _ _ h=>h),h.th,h.h,h.regs.keeps hk (fun _ _ h=>h),h.tag,h.len,h.room,h.flat,zG h.own hk (fun _ _ h=>h),L.keeps h.pl hk (fun _ _ h=>h),fun j y ds e1 e2=>L.keeps (h.pls j y ds e1 e2) hk (fun _ _ h=>h)⟩
theorem cell (h:ThX R sz ty w T F id g i H zM t fs f rv gp cap css cs) (j:Nat) {v:Value} (hv:cs[j]?=some v):w.cell? ⟨gp,fs.length*sz+j,none⟩=some v:=by
 refine (uC h.own).cell ?_
 rw [xH (by rw [h.flat];omega),h.flat,uI];exact hv
theorem free (h:ThX R sz ty w T F id g i H zM t fs f rv gp cap css cs) {j:Nat} (hj:j < cs.length):w.frozen? ⟨gp,fs.length*sz+j,none⟩=false :=
 (uC h.own).free (by rw [xU,h.flat];omega)
theorem fv (h:ThX R sz ty w T F id g i H zM t fs f rv gp cap css cs):w.cell? ⟨g,i*3+2,none⟩=some (.slice (some ⟨gp,0,none⟩) (fs.length+1) cap):=(zAA h.G.row h.h).2.2
include L in
theorem zN2 (h:ThX R sz ty w T F id g i H zM t fs f rv gp cap css cs) (j:Nat) (v:Value) (hj:j < cs.length) {f':WFr} (hp:R w F f' (cs.set j v)) :
 zAR R sz ty w T F id g i zM { t with fs:=fs++[f'] } (w.setCell ⟨gp,fs.length*sz+j,none⟩ v):=by
 have hk:Keeps (fun k=>k=gp) w (w.setCell ⟨gp,fs.length*sz+j,none⟩ v):=(yC (fun k=>k=gp) w).setCell (p:=⟨gp,fs.length*sz+j,none⟩) (fun _=>rfl) _;have ho:=(World.ownsRow.stored h.own (fs.length*sz+j) v).1
 have e:(css.flatten++cs).set (fs.length*sz+j) v=css.flatten++cs.set j v:=by
  rw [kN _ _ (by rw [h.flat];omega),h.flat,uI]
 rw [e] at ho;have hF:∀ k,F k -> ¬ k=gp:=fun k hk e=>by have:=h.G.sep.sep k hk;rw [e,h.tag] at this;cases this
 have hgp:¬ g=gp:=fun e=>by have:=h.G.tag;rw [e,h.tag] at this;cases this
 have hj:=zBV.join (R:=R) (F:=F) (T:=T) (i:=i) (f:=f') ho h.tag h.len (L.keeps hp hk hF) (fun j y ds e1 e2=>L.keeps (h.pls j y ds e1 e2) hk hF)
 have hH:H.set i ⟨t.st,rv, .slice (some ⟨gp,0,none⟩) (fs.length+1) cap⟩=H:=by
  obtain ⟨q1,q2⟩:=yP.1 h.h;rw [<- q2,List.set_getElem_self]
 have hu:=zAV.upd (i:=i) (t':={ t with fs:=fs++[f'] }) L h.G (uW T id w) (h.G.sep.keeps hk) (hk.mono (fun k _ e=>.inr (.inr (by rw [e];exact h.tag)))) (a':=⟨t.st,rv, .slice (some ⟨gp,0,none⟩) (fs.length+1) cap⟩) (by rw [hH];exact h.G.row.keeps hk hgp) rfl
  (h.regs.keeps hk (fun k e1 e2=>by rw [e2,h.tag] at e1;cases e1)) hj
 exact ⟨T,_,hu,uW T id w,hk.mono (fun k _ e=>by rw [e];exact .inr ⟨i, .inr h.tag⟩)⟩
include L in
theorem zPa (h:ThX R sz ty w T F id g i H zM t fs f rv gp cap css cs):zAR R sz ty w T F id g i zM { t with fs:=fs } (w.setCell ⟨g,i*3+2,none⟩ (.slice (some ⟨gp,0,none⟩) fs.length cap)):=by
 obtain ⟨v',hv'⟩:=eX (Value.slice (some ⟨gp,0,none⟩) fs.length cap);rw [<- hv'];have hk:Keeps (fun k=>k=g) w (w.setCell ⟨g,i*3+2,none⟩ v'):=(yC (fun k=>k=g) w).setCell (p:=⟨g,i*3+2,none⟩) (fun _=>rfl) _;have hF:∀ k,F k -> ¬ k=g:=fun k hk e=>by have:=h.G.sep.sep k hk;rw [e,h.G.tag] at this;cases this
 have hgp:¬ gp=g:=fun e=>by have:=h.G.tag;rw [<- e,h.tag] at this;cases this
 have ho:=zG h.own hk (fun k e1 e2=>by have e3:gp=k:=(J222 _);exact hgp (e3.trans e2));have hj:=zBV.pop (R:=R) (F:=F) (T:=T) (i:=i) (fs:=fs) ho h.tag h.len h.flat (fun j y ds e1 e2=>L.keeps (h.pls j y ds e1 e2) hk hF);rw [<- hv'] at hj;have hrow:=zDK h.G.row h.h 2 (by decide) v' ⟨t.st,rv,v'⟩ rfl;have hu:=zAV.upd (i:=i) (t':={ t with fs:=fs }) L h.G (uW T id w) (h.G.sep.keeps hk) (hk.mono (fun k _ e=>.inl e)) (a':=⟨t.st,rv,v'⟩) hrow rfl (h.regs.keeps hk (fun k e1 e2=>by rw [e2,h.G.tag] at e1;cases e1)) hj;exact J147 _
end ThX
end
def CpX (f:FuncId) (x:Ex):Prop:=∀ (w:World) (F:Nat -> Prop) (ad:Option Addr) (cap:Nat),zN w F x.args ad -> x.cnt < 1000000000 →
 Calls Tryz.prog f #[exV x ad cap] w fun e w'=>∃ ad' cap',e=.returned (exV x ad' cap') /\ zN w' (Since w.heap.size w') x.args ad' /\ Keeps zA w w'
theorem zC.frz {w:World} {g:Nat} {cs:List Value} (r:zC w g cs) {k:Nat} (hk:k < cs.length):∀ W,Keeps zA w W -> W.frozen? ⟨g,k,none⟩=false:=zK (r.free hk) ⟨_,r.cell (yQ hk)⟩
theorem zN8 (k num:Int) (nm:ByteArray) (l:List Ex) (ih:∀ y,y ∈ l -> CpX 70 y):CpX 70 (.mk k num nm l):=by
 intro w F ad cap h hb
 have HL:Hid (zN w F l ad):=h;have IH:=yB ih;have hl:=Ex.zAp l;have hcn:Ex.cnt (.mk k num nm l)=1+Ex.zW l:=by simp [Ex.cnt]
 rw [hcn] at hb;have hb2:l.length < 1000000000:=by omega
 have HB2:=yB hb;obtain ⟨j0,hj0,hz0,hz1,hz2⟩:=info_parts zF8;obtain ⟨b1,wA,e1,e2,R1,KA,_⟩:=newRow w [.int .i64 k, .int .i64 num, .string nm, .slice ad l.length cap] 65;obtain ⟨b2,w1,e3,e4,R2,K1,_⟩:=newRow wA [.int .i64 0, .int .i64 0, .string { data:=#[] }, .slice none 0 0] 65;have HR1:=yB (R1.keeps K1 (fun h=>h));have HR2:=yB R2;have HK1:=yB (KA.zB K1);have HBB:Hid (w.heap.size <= b1 /\ b1 < b2 /\ b2 < w1.heap.size):=⟨by omega,by have:=R1.lt (by simp);omega,R2.lt (by simp)⟩;have y1:=(R1.keeps K1 (fun h=>h)).zB0;have k1:=zH w1;obtain ⟨B,hB⟩:=eX w1.heap.size;have HB:=yB hB;obtain ⟨Q,hQ⟩:=eX (α:=Ending -> World -> Prop) (fun e w'=>∃ ad' cap',e=.returned (exV (.mk k num nm l) ad' cap') /\ zN w' (Since w.heap.size w') (Ex.mk k num nm l).args ad' /\ Keeps zA w w');rw [<- hQ];have HQ:=yB hQ;clear h ih hl hcn hb R1 R2 KA K1 hB hQ;show Calls _ _ #[.agg #[.int .i64 k, .int .i64 num, .string nm, .slice ad l.length cap]] _ _
 go_enter Tryz.func70,Tryz.ntmps70
 go_upto_region 1 with fail
 try rw [e1]
 try rw [e2]
 try rw [e3]
 try rw [e4]
 clear e1 e2 e3 e4;go_wp2_with fail
 go_loopw [3,9] (fun v iv wr=>∃ (i:Nat) (da:Option Addr) (dc:Nat) (css:List (List Value)),i <= l.length /\ iv=.int .i64 i /\ v=.slice da i dc /\ Hid (Acc zA9 (fun _=>False) B 4 65 wr (.slice da i dc) (l.take i) css) /\ Hid (Keeps zA w1 wr)) (fun _ iv _=>l.length - (intOf iv).toNat)
 case atStart=>exact ⟨0,none,0,[],yJ _,rfl,rfl,Acc.nil w1,yC _ _⟩
 case round =>
  obtain ⟨i,da,dc,css,hi,rfl,rfl,HA,HK⟩:=hrel;replace y1:=fun W (q:Keeps zA wr W)=>y1 W (HK.out.zB q)
  have kr:=zH wr;by_cases hlt:i < l.length
  ·have i1:(0:Int) <= i:=by omega
   have i2:(i:Int) < l.length:=by omega
   obtain ⟨g,o,a,c,e1,hg,d0,d1,d2,d3,hx⟩:=((HL.out.keeps (HK1.out.zB HK.out) (fun _ _ h=>h)):zN wr F l ad).at hlt;subst e1
   have HC:Hid (∀ W,Keeps zA wr W -> Calls Tryz.prog 70 #[.agg #[.int .i64 l[i].kind, .int .i64 l[i].num, .string l[i].nm, .slice a l[i].args.length c]] W fun e w'=>∃ ad' cap',e=.returned (exV l[i] ad' cap') /\ zN w' (Since W.heap.size w') l[i].args ad' /\ Keeps zA W w') :=
    fun W hk=>IH.out _ (yM hlt) W F a c (hx.keeps hk (fun _ _ h=>h)) (by have:=yk (yM hlt);have:=HB2.out;omega)
   have d:∀ W,Keeps zA wr W -> W.cell? ⟨g,o+i*4,none⟩=some (.int .i64 l[i].kind) /\ W.cell? ⟨g,o+i*4+1,none⟩=some (.int .i64 l[i].num) /\ W.cell? ⟨g,o+i*4+2,none⟩=some (.string l[i].nm) /\ W.cell? ⟨g,o+i*4+3,none⟩=some (.slice a l[i].args.length c):=fun W q=>⟨q.cell (fun h=>h) d0,q.cell (fun h=>h) d1,q.cell (fun h=>h) d2,q.cell (fun h=>h) d3⟩
   obtain ⟨y,hy⟩:=eX (l[i]);have HY:=yB hy;rw [<- hy] at HC d;clear d0 d1 d2 d3 hx hy hg;have HLEN:Hid ((l.take i).length=i):=by show _=_;rw [uF];omega
   have i3:i+1 <= 1000000000:=by omega
   go_upto_region 5 with fail
   obtain ⟨b7,w7,e1,e2,R7,K7,_⟩:=newRow wr [.int .i64 y.kind, .int .i64 y.num, .string y.nm, .slice a y.args.length c] 65;try rw [e1]
   try rw [e2]
   have y7:=R7.zB0;have k7:=zH w7;have HK7:=yB K7;clear e1 e2 R7 K7 d;go_upto_region 6 with (first | (go_at_call 70;refine (HC.out _ HK7.out).mono ?_;rintro e w8 ⟨ad2,cp2,rfl,s8,g8⟩;unfold exV;have HS8:=yB s8;have HK8:=yB g8;have HA8:Hid (Acc zA9 (fun _=>False) B 4 65 w8 (.slice da i dc) (l.take i) css):=HA.out.zD zFJ (HK7.out.zB g8);clear s8 g8) | (at_builtin;refine zI _ (by rfl) _ _ 63 (by rfl) 0 65 j0 _ 4 56 Tryz.underlying63 hj0 hz0 hz1 hz2 rfl (by decide) (.slice da i dc) i css.flatten (by rfl) (by have h1:=HA8.out.2.1;rw [HLEN.out] at h1;exact zG h1 ((yC zA w8).alloc _) (fun _ _ h=>h)) (.slice (some ⟨w8.heap.size,0,none⟩) 1 1) 1 [.int .i64 y.kind, .int .i64 y.num, .string y.nm, .slice ad2 y.args.length cp2] (by rfl) (xN (yN (yK w8 _))) rfl (J188 _) (by unfold maxLen;omega) (by omega) (yJ _) ?_;intro da2 dc2 w9 ha;have HAO:=yB ha;clear ha))
   have hk8:Keeps zA w8 (w8.alloc (.cells #[.int .i64 y.kind, .int .i64 y.num, .string y.nm, .slice ad2 y.args.length cp2] 65)):=(yC zA w8).alloc _;have HA9:=HA8.out.zD zFJ hk8
   have hel:zA9 (w8.alloc (.cells #[.int .i64 y.kind, .int .i64 y.num, .string y.nm, .slice ad2 y.args.length cp2] 65)) (zBU (fun _=>False) B (w8.alloc (.cells #[.int .i64 y.kind, .int .i64 y.num, .string y.nm, .slice ad2 y.args.length cp2] 65)) (.slice da i dc)) y [.int .i64 y.kind, .int .i64 y.num, .string y.nm, .slice ad2 y.args.length cp2]:=by
    refine zA9.zFu ((HS8.out.keeps hk8 (fun _ _ h=>h)).mono (fun k hk=>.inr ⟨?_,yI hk.2 hk8.size,fun e=>?_⟩))
    ·have h1:=hk.1;have h2:=HK7.out.size;have h3:=HK.out.size;have h4:=HB.out;omega
    ·have h0:k < wr.heap.size:=zO HA.out.2.1 e
     have h1:=hk.1;have h2:=HK7.out.size;omega
   have hpush:=HA9.push zFJ (fun k hk=>hk.elim) (by have h1:=HK8.out.size;have h2:=HK7.out.size;have h3:=HK.out.size;have h4:=HB.out;have h5:=hk8.size;omega) hel (by decide) (ad:=da2) (cap:=dc2) (w':=w9) (J219 _);rw [HLEN.out] at hpush;have hOB:∀ q,(Value.slice da i dc).ownBlock=some q -> B <= q:=HA.out.2.2.1
   have hk9:Keeps zA w1 w9:=(((HK.out.zB HK7.out).zB HK8.out).zB hk8).trans (xV HAO.out (yC (fun q=>(Value.slice da i dc).ownBlock=some q) _) (fun q e _=>e)) (fun q hq e=>by have h1:=hOB q e;have h2:=HB.out;omega)
   have HPU:Hid (Acc zA9 (fun _=>False) B 4 65 w9 (.slice da2 (i+1) dc2) (l.take (i+1)) (css++[[.int .i64 y.kind, .int .i64 y.num, .string y.nm, .slice ad2 y.args.length cp2]])):=by
    rw [take_at hlt,<- HY.out];exact hpush
   have HKE:=yB hk9;clear hpush hk9 hel HA9 hk8 hOB;exact J118 _
  ·obtain rfl:i=l.length:=by omega
   have HRR:=yB (HR2.out.keeps HK.out (fun h=>h));have HRX:=yB ((HR1.out.keeps HK.out (fun h=>h)).set 3 (by simp) (.slice da l.length dc));have f3:=zC.frz (HR1.out.keeps HK.out (fun h=>h)) (k:=3) (by simp);go_upto_region 8 with fail
   have kz:Keeps (fun q=>q=b1) wr (wr.setCell ⟨b1,3,none⟩ (.slice da l.length dc)):=(yC (fun q=>q=b1) wr).setCell (p:=⟨b1,3,none⟩) (fun _=>rfl) _;have rz:zC (wr.setCell ⟨b1,3,none⟩ (.slice da l.length dc)) b1 [.int .i64 k, .int .i64 num, .string nm, .slice da l.length dc]:=HRX.out;generalize wr.setCell ⟨b1,3,none⟩ (.slice da l.length dc)=wz at kz rz ⊢;have r2z:=HRR.out.keeps kz (fun e=>by have e':b2=b1:=e;have:=HBB.out;omega);have HKZ:=yB kz;have HR2Z:=yB r2z;have yz:=rz.zB0;have y2z:=r2z.zB0;have f20:=r2z.frz (k:=0) (by simp);have f21:=r2z.frz (k:=1) (by simp);have f22:=r2z.frz (k:=2) (by simp);have f23:=r2z.frz (k:=3) (by simp);have kzz:=zH wz;clear y1 kr kz rz r2z f3;go_wp2_with fail
   have hrow:zC ((((wz.setCell ⟨b2,0,none⟩ (.int .i64 k)).setCell ⟨b2,1,none⟩ (.int .i64 num)).setCell ⟨b2,2,none⟩ (.string nm)).setCell ⟨b2,3,none⟩ (.slice da l.length dc)) b2 [.int .i64 k, .int .i64 num, .string nm, .slice da l.length dc]:=(((HR2Z.out.set 0 (by simp) _).set 1 (by simp) _).set 2 (by simp) _).set 3 (by simp) _;have hks:Keeps (fun q=>q=b2) wz ((((wz.setCell ⟨b2,0,none⟩ (.int .i64 k)).setCell ⟨b2,1,none⟩ (.int .i64 num)).setCell ⟨b2,2,none⟩ (.string nm)).setCell ⟨b2,3,none⟩ (.slice da l.length dc)):=((((yC (fun q=>q=b2) wz).setCell (p:=⟨b2,0,none⟩) (fun _=>rfl) _).setCell (p:=⟨b2,1,none⟩) (fun _=>rfl) _).setCell (p:=⟨b2,2,none⟩) (fun _=>rfl) _).setCell (p:=⟨b2,3,none⟩) (fun _=>rfl) _;generalize (((wz.setCell ⟨b2,0,none⟩ (.int .i64 k)).setCell ⟨b2,1,none⟩ (.int .i64 num)).setCell ⟨b2,2,none⟩ (.string nm)).setCell ⟨b2,3,none⟩ (.slice da l.length dc)=wE at hrow hks ⊢;refine xA (v:=.agg #[.int .i64 k, .int .i64 num, .string nm, .slice da l.length dc]) (by simp [results,Tryz.results70,go_sem,hrow.cell (k:=0) rfl,hrow.cell (k:=1) rfl,hrow.cell (k:=2) rfl,hrow.cell (k:=3) rfl]) rfl ?_
   have hA:=HA.out;rw [xT] at hA;obtain ⟨h1,h2⟩:=hA.elems zFJ (ad:=da) (n:=l.length) (cap:=dc) rfl;have h3:zN wr (fun k=>False \/ (B <= k /\ k < wr.heap.size)) l da:=⟨_,h1,h2⟩;have hkk:Keeps (fun q=>q=b1 \/ q=b2) wr wE:=(HKZ.out.mono (fun _ _ e=>.inl e)).trans hks (fun _ _ e=>.inr e);rw [HQ.out];refine ⟨da,dc,rfl,(h3.keeps hkk (fun k hk e=>?_)).mono (fun k hk=>?_),?_⟩
   ·have hb:=HBB.out
    have hB:=HB.out;rcases hk with hk | hk
    ·exact hk
    ·rcases e with e | e <;> omega
   ·have hb:=HBB.out
    have hB:=HB.out;rcases hk with hk | hk
    ·exact hk.elim
    ·exact ⟨by omega,yI hk.2 hkk.size⟩
   ·exact (HK1.out.zB HK.out).trans hkk (fun q hq e=>by have hb:=HBB.out;rcases e with e | e <;> omega)
theorem zNL (x:Ex):CpX 70 x:=Ex.ind (fun k n s l ih=>zN8 k n s l ih) x
theorem zJw:(Tryz.prog.info? 68).map (fun i=>(i.zero,i.size,i.bytes))=some (some (.agg #[.int .i64 0, .int .i64 0, .int .i64 0, .int .i64 0, .int .i64 0, .string zq, .slice none 0 0, .int .i64 0, .slice none 0 0, .slice none 0 0]),10,136):=zLT
def CpA (f:FuncId) (l:List Ac):Prop:=∀ (w:World) (F:Nat -> Prop) (ad:Option Addr) (cap:Nat),zAQ w F l ad →
 Calls Tryz.prog f #[.slice ad l.length cap] w fun e w'=>∃ ad' cap',e=.returned (.slice ad' l.length cap') /\ zBD w' (Since w.heap.size w') l (.slice ad' l.length cap') /\ Keeps zA w w'
theorem Acc.zPP {w:World} {B n cap:Nat} {ad:Option Addr} {xs:List Ac} {css:List (List Value)} (h:Acc AcC (fun _=>False) B 10 68 w (.slice ad n cap) xs css) (hn:n=xs.length):zBD w (Since B w) xs (.slice ad n cap):=by
 obtain ⟨h1,h2⟩:=h.elems zJx (ad:=ad) (n:=n) (cap:=cap) rfl;have hm:∀ k,(False \/ (B <= k /\ k < w.heap.size)) -> Since B w k:=fun k hk=>hk.elim False.elim (fun h=>h)
 refine ⟨ad,cap,fun i=>css.getD i [],by rw [hn],?_,h1.mono hm,fun i y e=>(h2 i y e).mono hm⟩
 rcases h.2.1.2 with ⟨e,h0⟩ | ⟨g,c,cur,e,_,_,hc,_⟩
 ·rw [h0];exact yJ _
 ·simp only [uJ] at e
  rw [e.2.2];exact hc
theorem zLB (l:List Ac) (hb:Ac.szL l < 900000000) (ih:∀ l',Ac.szL l' < Ac.szL l -> CpA 33 l'):CpA 33 l:=by
 intro w F ad cap h
 have HL:=yB h;have IH:=yB ih;have HBB:=yB hb;have hl:=Ac.zAp l;have hb2:l.length < 1000000000:=by omega
 obtain ⟨j0,hj0,hz0,hz1,hz2⟩:=info_parts zJw;have k1:=zH w;obtain ⟨B,hB⟩:=eX w.heap.size;have HB:=yB hB;obtain ⟨Q,hQ⟩:=eX (α:=Ending -> World -> Prop) (fun e w'=>∃ ad' cap',e=.returned (.slice ad' l.length cap') /\ zBD w' (Since w.heap.size w') l (.slice ad' l.length cap') /\ Keeps zA w w');rw [<- hQ];have HQ:=yB hQ;clear h ih hl hb hB hQ;go_enter Tryz.func33,Tryz.ntmps33
 go_wp2_with fail
 go_loopw [3,8] (fun v iv wr=>∃ (i:Nat) (da:Option Addr) (dc:Nat) (css:List (List Value)),i <= l.length /\ iv=.int .i64 i /\ v=.slice da i dc /\ Hid (Acc AcC (fun _=>False) B 10 68 wr (.slice da i dc) (l.take i) css) /\ Hid (Keeps zA w wr)) (fun _ iv _=>l.length - (intOf iv).toNat)
 case atStart=>exact ⟨0,none,0,[],yJ _,rfl,rfl,Acc.nil w,yC _ _⟩
 case round =>
  obtain ⟨i,da,dc,css,hi,rfl,rfl,HA,HK⟩:=hrel;have kr:=zH wr;by_cases hlt:i < l.length
  ·have i1:(0:Int) <= i:=by omega
   have i2:(i:Int) < l.length:=by omega
   obtain ⟨g,o,xa,xc,ta,tc,ea,ec,e1,hg,q0,q1,q2,q3,q4,q5,q6,q7,q8,q9,hx,ht,he⟩:=((HL.out.keeps HK.out (fun _ _ h=>h)):zAQ wr F l ad).at hlt;subst e1
   have d:∀ W,Keeps zA wr W -> W.cell? ⟨g,o+i*10,none⟩=some (.int .i64 l[i].kind) /\ W.cell? ⟨g,o+i*10+1,none⟩=some (.int .i64 l[i].reg) /\ W.cell? ⟨g,o+i*10+2,none⟩=some (.int .i64 l[i].obj) /\ W.cell? ⟨g,o+i*10+3,none⟩=some (.int .i64 l[i].ex.kind) /\ W.cell? ⟨g,o+i*10+4,none⟩=some (.int .i64 l[i].ex.num) ∧
    W.cell? ⟨g,o+i*10+5,none⟩=some (.string l[i].ex.nm) /\ W.cell? ⟨g,o+i*10+6,none⟩=some (.slice xa l[i].ex.args.length xc) /\ W.cell? ⟨g,o+i*10+7,none⟩=some (.int .i64 l[i].count) /\ W.cell? ⟨g,o+i*10+8,none⟩=some (.slice ta l[i].thn.length tc) /\ W.cell? ⟨g,o+i*10+9,none⟩=some (.slice ea l[i].els.length ec) :=
    fun W hk=>⟨hk.cell (fun h=>h) q0,hk.cell (fun h=>h) q1,hk.cell (fun h=>h) q2,hk.cell (fun h=>h) q3,hk.cell (fun h=>h) q4,hk.cell (fun h=>h) q5,hk.cell (fun h=>h) q6,hk.cell (fun h=>h) q7,hk.cell (fun h=>h) q8,hk.cell (fun h=>h) q9⟩
   obtain ⟨y,hy⟩:=eX (l[i]);have HY:=yB hy;rw [<- hy] at d hx ht he;have HX:=yB hx;have HTH:=yB ht;have HEL:=yB he;have hsz:y.sz <= Ac.szL l:=Ac.zBy (by rw [hy];exact yM hlt);have hse:=Ac.zCI y;have HSZ:Hid (Ac.szL y.thn < Ac.szL l /\ Ac.szL y.els < Ac.szL l /\ y.ex.cnt < 1000000000):=by have:=HBB.out;exact ⟨by omega,by omega,by omega⟩
   clear q0 q1 q2 q3 q4 q5 q6 q7 q8 q9 hx ht he hy hg hsz hse;have HLEN:Hid ((l.take i).length=i):=by show _=_;rw [uF];omega
   have i3:i+1 <= 1000000000:=by omega
   go_upto_region 5 with fail
   obtain ⟨b7,w7,e1,e2,R7,K7,_⟩:=newRow wr [.int .i64 y.kind, .int .i64 y.reg, .int .i64 y.obj, .int .i64 y.ex.kind, .int .i64 y.ex.num, .string y.ex.nm, .slice xa y.ex.args.length xc, .int .i64 y.count, .slice ta y.thn.length tc, .slice ea y.els.length ec] 68;try rw [e1]
   try rw [e2]
   have HB7:Hid (wr.heap.size <= b7 /\ b7 < w7.heap.size):=⟨by omega,R7.lt (by simp)⟩;have y7:=R7.zAI;have g3:=R7.frz (k:=3) (by simp);have g4:=R7.frz (k:=4) (by simp);have g5:=R7.frz (k:=5) (by simp);have g6:=R7.frz (k:=6) (by simp);have k7:=zH w7;have HR7:=yB R7;have HK7:=yB K7;have HCX:Hid (Calls Tryz.prog 70 #[exV y.ex xa xc] w7 fun e w'=>∃ ad' cap',e=.returned (exV y.ex ad' cap') /\ zN w' (Since w7.heap.size w') y.ex.args ad' /\ Keeps zA w7 w'):=zNL y.ex w7 F xa xc (HX.out.keeps K7 (fun _ _ h=>h)) HSZ.out.2.2;unfold exV at HCX;clear e1 e2 R7 K7 d;go_upto_region 6 with (go_at_call 70;refine HCX.out.mono ?_;rintro e w8 ⟨ax,cx,rfl,s8,k8⟩;have HS8:=yB s8;have HK8:=yB k8;clear s8)
   have R9:=(((((HR7.out.keeps HK8.out (fun h=>h)).set 3 (by simp) (.int .i64 y.ex.kind)).set 4 (by simp) (.int .i64 y.ex.num)).set 5 (by simp) (.string y.ex.nm)).set 6 (by simp) (.slice ax y.ex.args.length cx));have R9:zC ((((w8.setCell ⟨b7,3,none⟩ (.int .i64 y.ex.kind)).setCell ⟨b7,4,none⟩ (.int .i64 y.ex.num)).setCell ⟨b7,5,none⟩ (.string y.ex.nm)).setCell ⟨b7,6,none⟩ (.slice ax y.ex.args.length cx)) b7 [.int .i64 y.kind, .int .i64 y.reg, .int .i64 y.obj, .int .i64 y.ex.kind, .int .i64 y.ex.num, .string y.ex.nm, .slice ax y.ex.args.length cx, .int .i64 y.count, .slice ta y.thn.length tc, .slice ea y.els.length ec]:=R9;have K9:Keeps (fun q=>q=b7) w8 ((((w8.setCell ⟨b7,3,none⟩ (.int .i64 y.ex.kind)).setCell ⟨b7,4,none⟩ (.int .i64 y.ex.num)).setCell ⟨b7,5,none⟩ (.string y.ex.nm)).setCell ⟨b7,6,none⟩ (.slice ax y.ex.args.length cx)):=((((yC (fun q=>q=b7) w8).setCell (p:=⟨b7,3,none⟩) (fun _=>rfl) _).setCell (p:=⟨b7,4,none⟩) (fun _=>rfl) _).setCell (p:=⟨b7,5,none⟩) (fun _=>rfl) _).setCell (p:=⟨b7,6,none⟩) (fun _=>rfl) _;generalize (((w8.setCell ⟨b7,3,none⟩ (.int .i64 y.ex.kind)).setCell ⟨b7,4,none⟩ (.int .i64 y.ex.num)).setCell ⟨b7,5,none⟩ (.string y.ex.nm)).setCell ⟨b7,6,none⟩ (.slice ax y.ex.args.length cx)=w9 at R9 K9 ⊢;have HR9:=yB R9;have HX9:Hid (zN w9 (Since w7.heap.size w9) y.ex.args ax):=(HS8.out.keeps K9 (fun q hq e=>by have e':q=b7:=e;have:=HB7.out.2;have:=hq.1;omega)).mono (fun q hq=>⟨hq.1,yI hq.2 K9.size⟩);have HK79:Hid (w7.heap.size <= w9.heap.size):=yX HK8.out.size K9.size;have HKR9:Hid (Keeps zA wr w9):=(HK7.out.zB HK8.out).trans K9 (fun q hq e=>by exact J214 _);have y9:=R9.zAI;have k9:=zH w9;have HCT:Hid (∀ W,Keeps zA w9 W -> Calls Tryz.prog 33 #[.slice ta y.thn.length tc] W fun e w'=>∃ ad' cap',e=.returned (.slice ad' y.thn.length cap') /\ zBD w' (Since W.heap.size w') y.thn (.slice ad' y.thn.length cap') /\ Keeps zA W w'):=fun W hk=>IH.out y.thn HSZ.out.1 W F ta tc (HTH.out.keeps (HKR9.out.zB hk) (fun _ _ h=>h))
   have HCE:Hid (∀ W,Keeps zA w9 W -> Calls Tryz.prog 33 #[.slice ea y.els.length ec] W fun e w'=>∃ ad' cap',e=.returned (.slice ad' y.els.length cap') /\ zBD w' (Since W.heap.size w') y.els (.slice ad' y.els.length cap') /\ Keeps zA W w'):=fun W hk=>IH.out y.els HSZ.out.2.1 W F ea ec (HEL.out.keeps (HKR9.out.zB hk) (fun _ _ h=>h))
   clear R9 K9 y7 g3 g4 g5 g6 k7 kr HR7 HCX;refine zL 7 (by kernel_rfl) (by kernel_rfl) (Keeps zA) (yC zA) (fun a b c h h'=>xE h h') (zAH [some (.pointer (some ⟨b7,8,none⟩)),some (.slice ta y.thn.length tc),none,some (.pointer (some ⟨b7,9,none⟩)),some (.slice ea y.els.length ec),none,some (.pointer (some ⟨b7,8,none⟩))] (fun j v W=>match j with | 2=>∃ ad' cap',v=.slice ad' y.thn.length cap' /\ zBD W (Since w9.heap.size W) y.thn v | _=>∃ ad' cap',v=.slice ad' y.els.length cap' /\ zBD W (Since w9.heap.size W) y.els v)) (uG (fun j v W W' h hk=>by
   revert h
   split
   ·exact J63 _
   ·rintro ⟨a1,c1,e,h1⟩;exact ⟨a1,c1,e,(h1.keeps hk (fun _ _ h=>h)).mono (fun k hk'=>⟨hk'.1,yI hk'.2 hk.size⟩)⟩)) ?_ ?_
   ·intro q oo hq ho vs W Q' hR hd hK
    have HRW:Keeps zA w9 W:=((zH w9).drew).zB hR;rcases (show q=0 \/ q=1 \/ q=2 \/ q=3 \/ q=4 \/ q=5 \/ q=6 by omega) with rfl | rfl | rfl | rfl | rfl | rfl | rfl
    all_goals (simp only [yD,yE,yO] at ho;subst ho;simp only [zJ,yD,yE,yL,Option.bind,Act.put,yF,yG,yH] at hK ⊢;clear hq)
    all_goals try ((try (have e:vs 0=_:=hd 0 (by decide +kernel);rw [e] at hK ⊢;clear e));(try (have e:vs 1=_:=hd 1 (by decide +kernel);rw [e] at hK ⊢;clear e));(try (have e:vs 3=_:=hd 3 (by decide +kernel);rw [e] at hK ⊢;clear e));(try (have e:vs 4=_:=hd 4 (by decide +kernel);rw [e] at hK ⊢;clear e));(try (have e:vs 6=_:=hd 6 (by decide +kernel);rw [e] at hK ⊢;clear e));clear hd;go_wp2_with (fail);first | exact hK _ _ (yC _ _) rfl)
    ·have e:vs 1=_:=hd 1 (by kernel_rfl)
     rw [e] at hK ⊢;clear hd e;have HW9:Hid (w9.heap.size <= W.heap.size):=HRW.size;go_wp2_with (go_at_call 33;refine (HCT.out _ HRW).mono ?_;rintro e W1 ⟨ad2,cp2,rfl,s1,g1⟩;have HS1:=yB s1;clear s1)
     exact J138 _
    ·have e:vs 4=_:=hd 4 (by kernel_rfl)
     rw [e] at hK ⊢;clear hd e;have HW9:Hid (w9.heap.size <= W.heap.size):=HRW.size;go_wp2_with (go_at_call 33;refine (HCE.out _ HRW).mono ?_;rintro e W1 ⟨ad2,cp2,rfl,s1,g1⟩;have HS1:=yB s1;clear s1)
     exact J138 _
   ·intro vs W hR hFF
    have HRW:Keeps zA w9 W:=((zH w9).drew).zB hR;obtain ⟨at1,ct1,e2,hs2⟩:=(hFF 2 (by decide):∃ ad' cap',vs 2=.slice ad' y.thn.length cap' /\ zBD W (Since w9.heap.size W) y.thn (vs 2));obtain ⟨ae1,ce1,e5,hs5⟩:=(hFF 5 (by decide):∃ ad' cap',vs 5=.slice ad' y.els.length cap' /\ zBD W (Since w9.heap.size W) y.els (vs 5));have e6:vs 6=_:=hFF 6 (by decide);simp only [zJ,yD,yE,yL,Option.bind,Act.put,yF,yG,yH,yS,yR];rw [e6];rw [e2] at hs2 ⊢;rw [e5] at hs5 ⊢;have HS2:=yB hs2;have HS5:=yB hs5;have HRX:=yB HRW;have f8:=fun W' (q:Keeps zA W W')=>HR9.out.frz (k:=8) (by simp) W' (HRX.out.zB q)
    have f9:=fun W' (q:Keeps zA W W')=>HR9.out.frz (k:=9) (by simp) W' (HRX.out.zB q)
    have yW:=(HR9.out.keeps HRW (fun h=>h)).zAI;have kW:=zH W;clear hFF e2 e5 e6 hs2 hs5 y9 k9 hR HRW;go_upto_region 7 with fail
    have RX:zC ((W.setCell ⟨b7,8,none⟩ (.slice at1 y.thn.length ct1)).setCell ⟨b7,9,none⟩ (.slice ae1 y.els.length ce1)) b7 [.int .i64 y.kind, .int .i64 y.reg, .int .i64 y.obj, .int .i64 y.ex.kind, .int .i64 y.ex.num, .string y.ex.nm, .slice ax y.ex.args.length cx, .int .i64 y.count, .slice at1 y.thn.length ct1, .slice ae1 y.els.length ce1]:=((HR9.out.keeps HRX.out (fun h=>h)).set 8 (by simp) _).set 9 (by simp) _;have KX:Keeps (fun q=>q=b7) W ((W.setCell ⟨b7,8,none⟩ (.slice at1 y.thn.length ct1)).setCell ⟨b7,9,none⟩ (.slice ae1 y.els.length ce1)):=((yC (fun q=>q=b7) W).setCell (p:=⟨b7,8,none⟩) (fun _=>rfl) _).setCell (p:=⟨b7,9,none⟩) (fun _=>rfl) _;generalize (W.setCell ⟨b7,8,none⟩ (.slice at1 y.thn.length ct1)).setCell ⟨b7,9,none⟩ (.slice ae1 y.els.length ce1)=wx at RX KX ⊢;have yx:=RX.zAI;have kx:=zH wx;have HKX:=yB KX;have HKRX:Hid (Keeps zA wr wx):=(HKR9.out.zB HRX.out).trans KX (fun q hq e=>by exact J214 _);have HAX:=yB (HA.out.zD zJx HKRX.out);clear RX KX yW f8 f9 kW;go_upto_region 8 with (at_builtin;refine zI _ (by rfl) _ _ 66 (by rfl) 0 68 j0 _ 10 136 vT hj0 hz0 hz1 hz2 rfl (by decide) (.slice da i dc) i css.flatten (by rfl) (by have h1:=HAX.out.2.1;rw [HLEN.out] at h1;exact zG h1 ((yC zA wx).alloc _) (fun _ _ h=>h)) (.slice (some ⟨wx.heap.size,0,none⟩) 1 1) 1 [.int .i64 y.kind, .int .i64 y.reg, .int .i64 y.obj, .int .i64 y.ex.kind, .int .i64 y.ex.num, .string y.ex.nm, .slice ax y.ex.args.length cx, .int .i64 y.count, .slice at1 y.thn.length ct1, .slice ae1 y.els.length ce1] (by rfl) (xN (yN (yK wx _))) rfl (J200 _) (by unfold maxLen;omega) (by omega) (yJ _) ?_;intro da2 dc2 wz ha;have HAO:=yB ha;clear ha)
    obtain ⟨cs,hcs⟩:∃ cs,cs=[Value.int .i64 y.kind, .int .i64 y.reg, .int .i64 y.obj, .int .i64 y.ex.kind, .int .i64 y.ex.num, .string y.ex.nm, .slice ax y.ex.args.length cx, .int .i64 y.count, .slice at1 y.thn.length ct1, .slice ae1 y.els.length ce1]:=⟨_,rfl⟩
    have HAO2:Hid (zAB (wx.alloc (.cells cs.toArray 68)) 0 68 10 (.slice da i dc) (i+1) (css.flatten++cs) da2 dc2 wz):=by rw [hcs];exact HAO.out
    have hka:Keeps zA wx (wx.alloc (.cells cs.toArray 68)):=(yC zA wx).alloc _;generalize wx.alloc (.cells cs.toArray 68)=wa at HAO2 hka;have hB1:B <= wr.heap.size:=J261 _;have hown:∀ q,(Value.slice da i dc).ownBlock=some q -> q < wr.heap.size:=fun q e=>zO HA.out.2.1 e
    have hW:W.heap.size <= wx.heap.size:=HKX.out.size;have hin:∀ q,w7.heap.size <= q /\ q < wx.heap.size -> zBU (fun _=>False) B wa (.slice da i dc) q:=fun q hq=>.inr ⟨by have:=HK7.out.size;omega,yI hq.2 hka.size,fun e=>by have h1:=hown q e;have:=HK7.out.size;omega⟩
    have hnb:∀ q,w7.heap.size <= q -> ¬ q=b7:=fun q hq e=>by have:=HB7.out.2;omega
    have hel:AcC wa (zBU (fun _=>False) B wa (.slice da i dc)) y cs:=by
     rw [hcs];refine AcC.zCv y ?_ ?_ ?_
     ·exact (((HX9.out.keeps HRX.out (fun _ _ h=>h)).keeps HKX.out (fun q hq e=>hnb q hq.1 e)).keeps hka (fun _ _ h=>h)).mono (fun q hq=>hin q ⟨hq.1,by have h1:=hq.2;have h2:=HRX.out.size;omega⟩)
     ·exact ((HS2.out.keeps HKX.out (fun q hq e=>hnb q (yX HK79.out hq.1) e)).keeps hka (fun _ _ h=>h)).mono (fun q hq=>hin q ⟨yX HK79.out hq.1,by have h1:=hq.2;omega⟩)
     ·exact ((HS5.out.keeps HKX.out (fun q hq e=>hnb q (yX HK79.out hq.1) e)).keeps hka (fun _ _ h=>h)).mono (fun q hq=>hin q ⟨yX HK79.out hq.1,by have h1:=hq.2;omega⟩)
    have hpush:=(HAX.out.zD zJx hka).push zJx (fun k hk=>hk.elim) (by have h1:=HKRX.out.size;have h2:=hka.size;omega) hel (by decide) (ad:=da2) (cap:=dc2) (w':=wz) (by rw [HLEN.out];exact HAO2.out);rw [HLEN.out] at hpush;have hOB:∀ q,(Value.slice da i dc).ownBlock=some q -> B <= q:=HA.out.2.2.1
    have hk9:Keeps zA w wz:=(((HK.out.zB HKRX.out).zB hka)).trans (xV HAO2.out (yC (fun q=>(Value.slice da i dc).ownBlock=some q) _) (fun q e _=>e)) (fun q hq e=>by have h1:=hOB q e;have h2:=HB.out;omega)
    have HPU:Hid (Acc AcC (fun _=>False) B 10 68 wz (.slice da2 (i+1) dc2) (l.take (i+1)) (css++[cs])):=by
     rw [take_at hlt,<- HY.out];exact hpush
    have HKE:=yB hk9;clear hpush hk9 hel hka hOB hin hnb hW hown hB1 hcs HAO2 yx kx;exact J118 _
  ·obtain rfl:i=l.length:=by omega
   go_wp2_with fail
   have hA:=HA.out;rw [xT] at hA;rw [HQ.out];exact ⟨da,dc,rfl,by rw [<- HB.out];exact hA.zPP rfl,HK.out⟩
theorem zMs:∀ (N:Nat) (l:List Ac),Ac.szL l <= N -> N < 900000000 -> CpA 33 l:=by
 intro N
 induction N with
 | zero=>intro l h hN;exact zLB l (by omega) (fun l' h'=>absurd h' (by omega))
 | succ N ih=>intro l h hN;exact zLB l (by omega) (fun l' h'=>ih l' (by omega) (by omega))
end Go.Proofs.YtfokdllgnblamaaGreatDoor
