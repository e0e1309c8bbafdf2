/- Layer D: texts joined. -/
import Derived.Test.YtoapgjjepiopbaaGreatDoorD28
import Derived.Handy
set_option linter.all false
set_option maxHeartbeats 2000000
set_option maxRecDepth 8000
namespace Go.Proofs.YtoapgjjepiopbaaGreatDoor
open Go.RowKit
abbrev yf:=@Go.Proofs.Tryz.underlying130
abbrev vL:=@zAT.refl
abbrev xN:=@beq_false_of_ne
theorem J111(P:Prop) (h:P:=by
 clear e3 e4 R2;go_wp2_with fail
 go_returns
 exact⟨rfl,by rw[<-HM.out];exact((HH.out.zG K2).zRl).before K2⟩):P:=h
theorem J197(P:Prop)(h:P:=by rw[show((m+1:Nat):Int)-1=(m:Int) by omega];exact vN _ (by omega) (by omega)):P:=h
theorem J238(P:Prop)(h:P:=by simpa [Value.ownBlock] using e1):P:=h
def zBc(w:World)(F:Nat->Prop)(f:WFr)(pv:Value):Prop:=
 (f.left<=1/\∃v,pv=.iface 201 (.agg #[v])/\zA3 w F f.rest v) ∨
 ∃v v2,pv=.iface 205 (.agg #[v,v2,f.left])/\zA3 w F f.rest v/\zA3 w F f.all v2
def zm:zA5 WFr:=λw F f cs=>∃pv,cs=[pv]/\zBc w F f pv
theorem zBc.keeps{S F:Nat->Prop}{w w':World}{f:WFr}{pv:Value}(h:zBc w F f pv)(hk:Keeps S w w')(hS:∀k,F k->¬S k):zBc w' F f pv:=by
 rcases h with⟨h0,v,e,h1⟩|⟨v,v2,e,h1,h2⟩
 ·exact .inl ⟨h0,v,e,h1.keeps hk hS⟩
 ·exact .inr ⟨v,v2,e,h1.keeps hk hS,h2.keeps hk hS⟩
theorem zU:zAU zm 1:=⟨λh hk hS=>by obtain⟨pv,e,h1⟩:=h;exact⟨pv,e,h1.keeps hk hS⟩,λh hF=>by
 obtain⟨pv,e,h1⟩:=h;rcases h1 with⟨h0,v,e1,h1⟩|⟨v,v2,e1,h1,h2⟩
 ·exact⟨pv,e,.inl ⟨h0,v,e1,h1.mono hF⟩⟩
 ·exact⟨pv,e,.inr ⟨v,v2,e1,h1.mono hF,h2.mono hF⟩⟩,
 λh=>by obtain⟨pv,e,_⟩:=h;rw[e];rfl⟩
theorem zBc.one{w:World}{F:Nat->Prop}{f:WFr}{pv:Value}(h:zBc w F f pv):pv.oneCell'=true:=by
 rcases h with⟨_,v,rfl,_⟩|⟨v,v2,rfl,_⟩ <;> rfl
theorem zKt(w:World)(g a:Nat)(ad:Option Addr)(cap:Nat)(hc:w.cell? ⟨g,a+2,none⟩=some (.slice ad 0 cap)):
 Calls Tryz.prog 66 #[.pointer (some ⟨g,a,none⟩)] w λe w'=>e=.returned .nilIface/\Keeps zA w w':=by
 go_enter Tryz.func66,Tryz.ntmps66
 go_wp2_with fail
 go_ret
 exact⟨rfl,zF w⟩
theorem zGY(w:World)(g a gp m cap:Nat)(pv:Value)(hc:w.cell? ⟨g,a+2,none⟩=some (.slice (some ⟨gp,0,none⟩) (m+1) cap))(hp:w.cell? ⟨gp,m,none⟩=some pv)(hm:m<1000000000)(h1:pv.oneCell'=true):
 Calls Tryz.prog 66 #[.pointer (some ⟨g,a,none⟩)] w λe w'=>e=.returned pv/\Keeps zA w w':=by
 have e1:IntKind.i64.wrap (((m+1:Nat):Int)-1)=(m:Int):=J197 _;have e2:¬((m+1:Nat):Int)=0:=by omega
 have e3:(((m+1:Nat):Int)==0)=false:=xN e2;have i1:(0:Int)<=m:=by omega
 have i2:(m:Int)<((m+1:Nat):Int):=by omega
 go_enter Tryz.func66,Tryz.ntmps66
 go_upto_region 3 with fail
 go_quiet (fail)
 go_wp2_with fail
 go_ret
 exact⟨rfl,(zF w).drewN _⟩
theorem zNZ:(Tryz.prog.info? 205).map (λi=>(i.zero,i.size,i.bytes))=some (some (.agg #[.slice none 0 0,.slice none 0 0,(0:Int)]),3,56):=by kernel_rfl
theorem zIg(v:Value)(w:World):(Instr.typeAssert (.iface 201 v) 148 205 true).run Tryz.prog w=.ok (.tuple #[.agg #[.slice none 0 0,.slice none 0 0,(0:Int)],false]) w:=by
 obtain⟨j,hj,hz,_⟩:=info_parts zNZ;simp[Instr.typeAssert,run_underlying Tryz.underlying205,typeInfo,zeroValue,hj,hz]
theorem zLH(v:Value)(w:World):(Instr.typeAssert (.iface 205 v) 148 205 true).run Tryz.prog w=.ok (.tuple #[v,true]) w:=by
 simp[Instr.typeAssert,run_underlying Tryz.underlying205]
structure ThL(w:World)(T:zZ)(F:Nat->Prop)(id g i:Nat)(H:List HTh)(zP:List WTh)(t:WTh)(fs:List WFr)(f:WFr)(rv:Value)(gp cap:Nat)(css:List (List Value))(pv:Value):Prop where
 G:zAm zm 1 148 w T F id g H zP
 th:zP[i]?=some t
 h:H[i]?=some ⟨t.st,rv,.slice (some ⟨gp,0,none⟩) (fs.length+1) cap⟩
 regs:zBX w T id (.regs i) rv t.regs
 tag:T gp=some (id,.fs i)
 len:css.length=fs.length
 room:fs.length+1<=cap
 flat:css.flatten.length=fs.length*1
 own:w.ownsRow 0 148 1 (.slice (some ⟨gp,0,none⟩) (fs.length+1) cap) (fs.length+1) (css.flatten++[pv])
 pl:zBc w F f pv
 pls:∀(j:Nat)(y:WFr)(ds:List Value),fs[j]?=some y->css[j]?=some ds->zm w F y ds
theorem zAm.last{w:World}{T:zZ}{F:Nat->Prop}{id g i:Nat}{H:List HTh}{zP:List WTh}{t:WTh}{fs:List WFr}{f:WFr}(h:zAm zm 1 148 w T F id g H zP)(ht:zP[i]?=some t)(hf:t.fs=fs++[f]):
 ∃rv gp cap css pv,ThL w T F id g i H zP t fs f rv gp cap css pv:=by
 obtain⟨rv,fv,hH,hr,hfs⟩:=h.get ht;rw[hf] at hfs;obtain⟨gp,cap,css,cs,rfl,h1,h2,h3,h4,h5,⟨pv,rfl,h6⟩,h7,h8,_⟩:=zCK.split zU hfs;exact⟨rv,gp,cap,css,pv,h,ht,hH,hr,h1,h2,h8,h3,h5,h6,h7⟩
namespace ThL
variable {w w':World} {T:zZ} {F:Nat->Prop} {id g i gp cap:Nat} {H:List HTh} {zP:List WTh} {t:WTh} {fs:List WFr} {f:WFr} {rv pv:Value} {css:List (List Value)}
theorem zG(h:ThL w T F id g i H zP t fs f rv gp cap css pv)(hk:Keeps zA w w'):ThL w' T F id g i H zP t fs f rv gp cap css pv:=
 ⟨yd zU h.G hk (λ_ _ h=>h),h.th,h.h,h.regs.keeps hk (λ_ _ h=>h),h.tag,h.len,h.room,h.flat,zD h.own hk (λ_ _ h=>h),h.pl.keeps hk (λ_ _ h=>h),λj y ds e1 e2=>zU.keeps (h.pls j y ds e1 e2) hk (λ_ _ h=>h)⟩
theorem cell(h:ThL w T F id g i H zP t fs f rv gp cap css pv):w.cell? ⟨gp,fs.length,none⟩=some pv:=by
 have hr:=uB h.own;refine hr.cell ?_
 rw[xI (by rw[h.flat];omega),h.flat];simp
theorem free(h:ThL w T F id g i H zP t fs f rv gp cap css pv):w.frozen? ⟨gp,fs.length,none⟩=false:=
 (uB h.own).free (by rw[xC,h.flat];simp)
theorem fv(h:ThL w T F id g i H zP t fs f rv gp cap css pv):w.cell? ⟨g,i*3+2,none⟩=some (.slice (some ⟨gp,0,none⟩) (fs.length+1) cap):=(zAP h.G.row h.h).2.2
theorem zQO(h:ThL w T F id g i H zP t fs f rv gp cap css pv){f':WFr}{pv':Value}(hp:zBc w F f' pv'):
 zAu zm 1 148 w T F id g i zP { t with fs:=fs++[f'] } (w.setCell ⟨gp,fs.length,none⟩ pv'):=by
 have hk:Keeps (λk=>k=gp) w (w.setCell ⟨gp,fs.length,none⟩ pv'):=(yB (λk=>k=gp) w).setCell (p:=⟨gp,fs.length,none⟩) (λ_=>rfl) _;have ho:=(World.ownsRow.stored h.own fs.length pv').1
 have e:(css.flatten++[pv]).set fs.length pv'=css.flatten++[pv']:=by
  rw[vX _ _ (by rw[h.flat];omega),h.flat];simp
 rw[e] at ho;have hF:∀k,F k->¬k=gp:=λk hk e=>by have:=h.G.sep.sep k hk;rw[e,h.tag] at this;cases this
 have hgp:¬g=gp:=λe=>by have:=h.G.tag;rw[e,h.tag] at this;cases this
 have hj:=zCK.join (R:=zm) (F:=F) (T:=T) (i:=i) (f:=f') ho h.tag h.len ⟨pv',rfl,hp.keeps hk hF⟩ (λj y ds e1 e2=>zU.keeps (h.pls j y ds e1 e2) hk hF)
 have hH:H.set i ⟨t.st,rv,.slice (some ⟨gp,0,none⟩) (fs.length+1) cap⟩=H:=by
  obtain⟨q1,q2⟩:=yP.1 h.h;rw[<-q2,List.set_getElem_self]
 have hu:=zAm.upd (i:=i) (t':={ t with fs:=fs++[f'] }) zU h.G (vL T id w) (h.G.sep.keeps hk) (hk.mono (λk _ e=>.inr (.inr (by rw[e];exact h.tag)))) (a':=⟨t.st,rv,.slice (some ⟨gp,0,none⟩) (fs.length+1) cap⟩) (by rw[hH];exact h.G.row.keeps hk hgp) rfl
  (h.regs.keeps hk (λk e1 e2=>by rw[e2,h.tag] at e1;cases e1)) hj
 exact⟨T,_,hu,vL T id w,hk.mono (λk _ e=>by rw[e];exact .inr ⟨i,.inr h.tag⟩)⟩
theorem zRl(h:ThL w T F id g i H zP t fs f rv gp cap css pv):zAu zm 1 148 w T F id g i zP { t with fs:=fs } (w.setCell ⟨g,i*3+2,none⟩ (.slice (some ⟨gp,0,none⟩) fs.length cap)):=by
 obtain⟨v',hv'⟩:=eX (Value.slice (some ⟨gp,0,none⟩) fs.length cap);rw[<-hv'];have hk:Keeps (λk=>k=g) w (w.setCell ⟨g,i*3+2,none⟩ v'):=(yB (λk=>k=g) w).setCell (p:=⟨g,i*3+2,none⟩) (λ_=>rfl) _;have hF:∀k,F k->¬k=g:=λk hk e=>by have:=h.G.sep.sep k hk;rw[e,h.G.tag] at this;cases this
 have hgp:¬gp=g:=λe=>by have:=h.G.tag;rw[<-e,h.tag] at this;cases this
 have ho:=zD h.own hk (λk e1 e2=>by have e3:gp=k:=(J238 _);exact hgp (e3.trans e2));have hj:=zCK.pop (R:=zm) (F:=F) (T:=T) (i:=i) (fs:=fs) ho h.tag h.len h.flat (λj y ds e1 e2=>zU.keeps (h.pls j y ds e1 e2) hk hF);rw[<-hv'] at hj;have hrow:=zEc h.G.row h.h 2 (by decide) v' ⟨t.st,rv,v'⟩ rfl;have hu:=zAm.upd (i:=i) (t':={ t with fs:=fs }) zU h.G (vL T id w) (h.G.sep.keeps hk) (hk.mono (λk _ e=>.inl e)) (a':=⟨t.st,rv,v'⟩) hrow rfl (h.regs.keeps hk (λk e1 e2=>by rw[e2,h.G.tag] at e1;cases e1)) hj;exact⟨T,_,hu,vL T id w,hk.mono (λk _ e=>by rw[e];exact .inl h.G.tag)⟩
end ThL
theorem zCm(v:Value)(w:World)(hv:∃a n c,v=.slice a n c):Calls Tryz.prog 366 #[.agg #[v]] w λe w'=>e=.returned v/\Keeps zA w w':=by
 obtain⟨a,n,c,rfl⟩:=hv;go_enter Tryz.func366,Tryz.ntmps366
 go_wp2_with fail
 go_ret
 exact⟨rfl,(zF w).alloc _⟩
theorem zDz(v v2:Value)(k:Int)(w:World)(hv:∃a n c,v=.slice a n c)(hv2:∃a n c,v2=.slice a n c):Calls Tryz.prog 367 #[.agg #[v,v2,k]] w λe w'=>e=.returned v/\Keeps zA w w':=by
 obtain⟨a,n,c,rfl⟩:=hv;obtain⟨a2,n2,c2,rfl⟩:=hv2;go_enter Tryz.func367,Tryz.ntmps367
 go_wp2_with fail
 go_ret
 exact⟨rfl,(zF w).alloc _⟩
theorem zK{w:World}{p:Addr}(h:w.frozen? p=false)(hc:∃v,w.cell? p=some v):∀W,Keeps zA w W->W.frozen? p=false:=λW q=>by
 obtain⟨v,hv⟩:=hc;have hb:=yR w p hv;rw[World.frozen?_of_block (q.block p.block hb (λh=>h))];exact h
theorem zER{w:World}{T:zZ}{F:Nat->Prop}{id g i gp cap:Nat}{H:List HTh}{zP:List WTh}{t:WTh}{fs:List WFr}{f:WFr}{rv pv:Value}{css:List (List Value)}(h:ThL w T F id g i H zP t fs f rv gp cap css pv){a:Ac}{r:List Ac}(hr:f.rest=a :: r)(hb:fs.length<1000000):
 Calls Tryz.prog 67 #[.pointer (some ⟨g,i*3,none⟩)] w λe w'=>e=.returned (.tuple #[])/\zAu zm 1 148 w T F id g i zP { t with fs:=fs++[⟨r,f.all,f.left⟩] } w':=by
 have HH:=yA h;have c2:=zL h.fv;have cp:=zL h.cell;have fp:=zK h.free ⟨_,h.cell⟩;have hpl:=h.pl;have h1:=hpl.one;have HTL:∀W,Keeps zA w W->Calls Tryz.prog 66 #[.pointer (some ⟨g,i*3,none⟩)] W λe w'=>e=.returned pv/\Keeps zA W w':=λW hk=>zGY W g (i*3) gp fs.length cap pv (c2 W hk) (cp W hk) (by omega) h1
 have HT:Ret w 66 #[.pointer (some ⟨g,i*3,none⟩)] pv:=HTL;clear h HTL;generalize hm:fs.length=m at c2 cp fp hb;have HM:=yA hm;have e1:IntKind.i64.wrap (((m+1:Nat):Int)-1)=(m:Int):=J197 _;have i1:(0:Int)<=m:=by omega
 have i2:(m:Int)<((m+1:Nat):Int):=by omega
 have k0:=zF w;clear hm;rcases hpl with⟨h0,v,rfl,hv⟩|⟨v,v2,rfl,hv,hv2⟩
 ·rw[hr] at hv
  obtain⟨v',HL,hv'⟩:=hv.tail;obtain⟨sa,sc,rfl⟩:=hv.slice;have HTA:=zIg (.agg #[.slice sa (r.length+1) sc]);obtain⟨sb,sd,rfl⟩:=hv'.slice;simp only[xM] at HL;go_enter Tryz.func67,Tryz.ntmps67
  go_upto_region 0 with fail
  go_quiet (fail)
  rename_i nq
  obtain⟨w1,hw1⟩:=eX (w.drewN nq);rw[<-hw1];have k1:Keeps zA w w1:=by rw[hw1];exact k0.drewN _
  clear hw1;go_upto_region 5 with fail
  obtain⟨b2,w2,e3,e4,R2,K2,_⟩:=newRow w1 [.slice none 0 0,.slice none 0 0,(0:Int)] 205;rw[e3,e4];have k2:=k1.zC K2;clear e3 e4 K2 R2;go_wp2_with (first|(go_at_call 66;refine HT.call k2 ?_;intro w3 k3 _)|(go_at_call 366;refine(zCm _ _ ⟨_,_,_,rfl⟩).mono ?_;rintro e w4 ⟨rfl,g4⟩;have k4:=k3.zC g4;clear g4))
  go_returns
  exact⟨rfl,by rw[<-HM.out];exact((HH.out.zG k4).zQO (f':=⟨r,f.all,f.left⟩) (.inl ⟨h0,_,rfl,hv'.keeps k4 (λ_ _ h=>h)⟩)).before k4⟩
 ·rw[hr] at hv
  obtain⟨v',HL,hv'⟩:=hv.tail;obtain⟨sa,sc,rfl⟩:=hv.slice;obtain⟨sb,sd,rfl⟩:=hv'.slice;obtain⟨sg,sh,rfl⟩:=hv2.slice;simp only[xM] at HL;have HTA:=zLH (.agg #[.slice sa (r.length+1) sc,.slice sg f.all.length sh,f.left]);go_enter Tryz.func67,Tryz.ntmps67
  go_upto_region 0 with fail
  go_quiet (fail)
  rename_i nq
  obtain⟨w1,hw1⟩:=eX (w.drewN nq);rw[<-hw1];have k1:Keeps zA w w1:=by rw[hw1];exact k0.drewN _
  clear hw1;go_upto_region 3 with fail
  obtain⟨b2,w2,e3,e4,R2,K2,_⟩:=newRow w1 [.slice sa (r.length+1) sc,.slice sg f.all.length sh,f.left] 205;rw[e3,e4];have k2:=k1.zC K2;have N:Hid (w.heap.size<=b2):=by show _<=_;rw[<-e3];exact k1.size
  clear e3 e4 K2;have y:=R2.zA7;have z:=zK (R2.free (k:=0) (by simp)) ⟨_,R2.cell (k:=0) rfl⟩;have kk:=zF w2;go_upto_region 4 with fail
  have R3:=R2.set 0 (by simp) (.slice sb r.length sd);have K23:Keeps (λq=>q=b2) w2 (w2.setCell ⟨b2,0,none⟩ (.slice sb r.length sd)):=(yB (λq=>q=b2) w2).setCell (p:=⟨b2,0,none⟩) (λ_=>rfl) _;generalize w2.setCell ⟨b2,0,none⟩ (.slice sb r.length sd)=w3 at R3 K23 ⊢;have k3:Keeps zA w w3:=k2.trans K23 (λq hq e=>by exact J232 _);have R3':zB w3 b2 [.slice sb r.length sd,.slice sg f.all.length sh,f.left]:=R3;have y3:=R3'.zA7;have kk3:=zF w3;clear y z kk R2 R3 R3' K23;go_wp2_with fail
  go_returns
  exact⟨rfl,by rw[<-HM.out];exact((HH.out.zG k3).zQO (f':=⟨r,f.all,f.left⟩) (.inr ⟨_,_,rfl,hv'.keeps k3 (λ_ _ h=>h),hv2.keeps k3 (λ_ _ h=>h)⟩)).before k3⟩
theorem zPI:Tryz.prog.underlying 130=some (.slice (Tryz.prog.elem 130)):=by simp[Program.elem,yf]
theorem zIF:(Tryz.prog.info? 148).map (λi=>(i.zero,i.size,i.bytes))=some (some .nilIface,1,16):=by kernel_rfl
theorem zQz(w:World):(Go.sizeOf (Tryz.prog.elem 130)).run Tryz.prog w=.ok 1 w:=by
 have he:Tryz.prog.elem 130=148:=by simp[Program.elem,yf]
 obtain⟨i0,hi0,hz0,hz1,hz2⟩:=info_parts zIF;rw[he];simp[go_sem,hi0,hz1]
theorem zQQ{gp n cap k:Nat}(hk:k<=cap):∀W,(Instr.slice 130 (.slice (some ⟨gp,0,none⟩) n cap) none (some (.int .i64 (k:Int))) none).run Tryz.prog W=.ok (.slice (some ⟨gp,0,none⟩) k cap) W:=λW=>by
 rw[run_slice_h W 130 _ _ _ zPI .i64 _ (by omega) (by omega),zQz];simp[Result.andThen,sliced,Addr.add]
def zFG(fs:List WFr)(f:WFr):List WFr:=if 1<f.left then fs++[⟨f.all,f.all,f.left-1⟩] else fs
theorem zOl{w:World}{T:zZ}{F:Nat->Prop}{id g i gp cap:Nat}{H:List HTh}{zP:List WTh}{t:WTh}{fs:List WFr}{f:WFr}{rv pv:Value}{css:List (List Value)}(h:ThL w T F id g i H zP t fs f rv gp cap css pv)(hb:fs.length<1000000)(hl:f.left<1000000):
 Calls Tryz.prog 108 #[.pointer (some ⟨g,i*3,none⟩)] w λe w'=>e=.returned (.tuple #[])/\zAu zm 1 148 w T F id g i zP { t with fs:=zFG fs f } w':=by
 have HH:=yA h;have c2:=zL h.fv;have cf:=zK (zD0 h.G.row (by have:=(yP.1 h.h).1;exact this) 2 (by decide)) ⟨_,h.fv⟩;have cp:=zL h.cell;have fp:=zK h.free ⟨_,h.cell⟩;have hpl:=h.pl;have h1:=hpl.one;have HL:=zQQ (gp:=gp) (n:=fs.length+1) (k:=fs.length) (cap:=cap) (by have:=h.room;omega);clear h;generalize hm:fs.length=m at c2 cp fp hb HL;have HM:=yA hm;have e1:IntKind.i64.wrap (((m+1:Nat):Int)-1)=(m:Int):=J197 _;have i1:(0:Int)<=m:=by omega
 have i2:(m:Int)<((m+1:Nat):Int):=by omega
 have k0:=zF w;clear hm;rcases hpl with⟨h0,v,rfl,hv⟩|⟨v,v2,rfl,hv,hv2⟩
 ·obtain⟨sa,sc,rfl⟩:=hv.slice
  have HTA:=zIg (.agg #[.slice sa f.rest.length sc]);have eo:zFG fs f=fs:=if_neg (by omega);rw[eo];clear eo;go_enter Tryz.func108,Tryz.ntmps108
  go_upto_region 2 with fail
  obtain⟨b2,w2,e3,e4,R2,K2,_⟩:=newRow w [.slice none 0 0,.slice none 0 0,(0:Int)] 205;rw[e3,e4];exact J111 _
 ·obtain⟨sa,sc,rfl⟩:=hv.slice
  obtain⟨sg,sh,rfl⟩:=hv2.slice;have HTA:=zLH (.agg #[.slice sa f.rest.length sc,.slice sg f.all.length sh,f.left]);generalize f.rest.length=zr at *;by_cases hgt:1<f.left
  ·have eo:zFG fs f=fs++[⟨f.all,f.all,f.left-1⟩]:=if_pos hgt
   rw[eo];have j1:(1:Int)<f.left:=by omega
   have j2:IntKind.i64.wrap ((f.left:Int)-1)=((f.left-1:Nat):Int):=by rw[show(f.left:Int)-1=((f.left-1:Nat):Int) by omega];exact vN _ (by omega) (by omega)
   clear eo;go_enter Tryz.func108,Tryz.ntmps108
   go_upto_region 2 with fail
   obtain⟨b2,w2,e3,e4,R2,K2,_⟩:=newRow w [.slice sa zr sc,.slice sg f.all.length sh,f.left] 205;rw[e3,e4];have y:=R2.zA7;have kk:=zF w2;clear e3 e4 R2;go_upto_region 3 with fail
   go_region
   go_wp2_with fail
   go_returns
   exact⟨rfl,by rw[<-HM.out];exact(((HH.out.zG K2).zQO (f':=⟨f.all,f.all,f.left-1⟩) (.inr ⟨_,_,rfl,hv2.keeps K2 (λ_ _ h=>h),hv2.keeps K2 (λ_ _ h=>h)⟩)).before K2).after zU ((zF _).drew)⟩
  ·have eo:zFG fs f=fs:=if_neg hgt
   rw[eo];have j1:¬(1:Int)<f.left:=by omega
   clear eo;go_enter Tryz.func108,Tryz.ntmps108
   go_upto_region 2 with fail
   obtain⟨b2,w2,e3,e4,R2,K2,_⟩:=newRow w [.slice sa zr sc,.slice sg f.all.length sh,f.left] 205;rw[e3,e4];have y:=R2.zA7;have kk:=zF w2;exact J111 _
section
variable {R:zA5 WFr} {sz:Nat} {ty:TypeId} {w w2:World} {T:zZ} {F:Nat->Prop} {id g i:Nat} {H:List HTh} {zP:List WTh} {t:WTh} {rv fv:Value} {css:List (List Value)} {f:WFr} {cs:List Value} {ad:Option Addr} {cap:Nat}
theorem zAm.app(h:zAm R sz ty w T F id g H zP)(hH:H[i]?=some ⟨t.st,rv,fv⟩)(h3:∀kb,fv.ownBlock=some kb->T kb=some (id,.fs i)){n:Nat}{xs:List Value}(ha:zn w 0 ty sz fv n xs ad cap w2):
 Keeps (λq=>T q=some (id,.fs i)) w w2/\zB w2 g (zAR H)/\w2.cell? ⟨g,i*3+2,none⟩=some fv/\w2.frozen? ⟨g,i*3+2,none⟩=false:=by
 have hk:Keeps (λq=>T q=some (id,.fs i)) w w2:=xD ha (yB _ _) (λq e _=>h3 q e);have hg:¬T g=some (id,.fs i):=λe=>by rw[h.tag] at e;cases e
 have hr:=h.row.keeps hk hg;exact⟨hk,hr,(zAP hr hH).2.2,zD0 hr ((yP.1 hH).1) 2 (by decide)⟩
theorem zAm.zNI(L:zAU R sz)(h:zAm R sz ty w T F id g H zP)(hH:H[i]?=some ⟨t.st,rv,fv⟩)(hr:zBX w T id (.regs i) rv t.regs)(h1:css.length=t.fs.length)(h3:∀kb,fv.ownBlock=some kb->T kb=some (id,.fs i))
 (h5:∀(j:Nat)(y:WFr)(ds:List Value),t.fs[j]?=some y->css[j]?=some ds->R w F y ds) (hR:R w F f cs) (ha:zn w 0 ty sz fv (t.fs.length+1) (css.flatten++cs) ad cap w2):
 zAu R sz ty w T F id g i zP { t with fs:=t.fs++[f] } (w2.setCell ⟨g,i*3+2,none⟩ (.slice ad (t.fs.length+1) cap)):=by
 obtain⟨hk,hrow,hc,_⟩:=h.app hH h3 ha;obtain⟨g6,c6,e6,_⟩:=ha.1.form (by omega);simp only[xH,yh] at e6;obtain⟨rfl,rfl⟩:=e6;have hlt6:g6<w2.heap.size:=zM ha.1 rfl
 have hg6:T g6=some (id,.fs i)\/(T g6=none/\w.heap.size<=g6/\¬F g6):=by
  rcases ha.2.2 g6 rfl with h6|h6
  ·exact .inl (h3 g6 h6)
  ·have:=h.sep.free (g:=g6) (by omega)
   exact .inr ⟨this.1,by omega,this.2⟩
 have hnF:¬F g6:=by
  rcases hg6 with h6|h6
  ·intro hf;have:=h.sep.sep g6 hf;rw[h6] at this;cases this
  ·exact h6.2.2
 have hext:zAT T (zC7 T id (.fs i) g6) id w:=zCp (hg6.imp (λh=>h) (λh=>⟨h.1,h.2.1⟩));obtain⟨v',hv'⟩:=eX (Value.slice (some ⟨g6,0,none⟩) (t.fs.length+1) cap);rw[<-hv'];have hk2:Keeps (λq=>q=g) w2 (w2.setCell ⟨g,i*3+2,none⟩ v'):=(yB (λq=>q=g) w2).setCell (p:=⟨g,i*3+2,none⟩) (λ_=>rfl) _;have hkt:Keeps (λk=>k=g\/T k=some (id,.fs i)) w (w2.setCell ⟨g,i*3+2,none⟩ v'):=(hk.mono (λk _ e=>.inr e)).trans hk2 (λk _ e=>.inl e);have hkk:Keeps (λk=>k=g\/T k=some (id,.regs i)\/T k=some (id,.fs i)) w (w2.setCell ⟨g,i*3+2,none⟩ v'):=hkt.mono (λk _ e=>e.imp (λh=>h) .inr)
 have hgg:¬g6=g:=λe=>by
  rcases hg6 with h6|h6
  ·rw[e,h.tag] at h6;cases h6
  ·rw[e,h.tag] at h6;cases h6.1
 have hFt:∀k,F k->¬(k=g\/T k=some (id,.fs i)):=λk hk e=>by
  have:=h.sep.sep k hk
  rcases e with e|e
  ·rw[e,h.tag] at this;cases this
  ·rw[e] at this;cases this
 have ho:=zD ha.1 hk2 (λq e1 e2=>by
  have e3:g6=q:=(J238 _);exact hgg (e3.trans e2))
 have hj:=zCK.join (R:=R) (F:=F) (T:=zC7 T id (.fs i) g6) (id:=id) (i:=i) (fs:=t.fs) (f:=f) ho (zDE _ _ _ _) h1 (L.keeps hR hkt hFt) (λj y ds e1 e2=>L.keeps (h5 j y ds e1 e2) hkt hFt);rw[<-hv'] at hj
 have hu:=zAm.upd (i:=i) (t':={ t with fs:=t.fs++[f] }) L h hext ((h.sep.keeps hkk).tag (yH hlt6 hk2.size) hnF) hkk (a':=⟨t.st,rv,v'⟩) (zEc hrow hH 2 (by decide) v' ⟨t.st,rv,v'⟩ rfl) rfl
  ((hr.keeps hkt (λq e1 e2=>by
    rcases e2 with e2|e2
    ·rw[e2,h.tag] at e1;cases e1
    ·rw[e2] at e1;cases e1)).ext hext.1) hj
 exact⟨_,_,hu,hext,zHh h hkk⟩
end
