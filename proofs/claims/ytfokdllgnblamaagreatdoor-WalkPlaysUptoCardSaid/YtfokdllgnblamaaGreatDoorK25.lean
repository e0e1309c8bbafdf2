/- Layer K: texts joined. -/
import Derived.Test.YtfokdllgnblamaaGreatDoorK24
import Derived.Handy
set_option linter.all false
set_option maxHeartbeats 2000000
set_option maxRecDepth 8000
namespace Go.Proofs.YtfokdllgnblamaaGreatDoor
open Go.RowKit
abbrev uW:=@zAG.refl
abbrev yY:=@beq_false_of_ne
theorem J91 (P:Prop) (h:P:=by
 go_wp2_with fail
 go_ret
 exact ⟨rfl,(zH w).alloc _⟩):P:=h
theorem J123 (P:Prop) (h:P:=by
 clear e3 e4 R2;go_wp2_with fail
 go_returns
 exact ⟨rfl,by rw [<- HM.out];exact ((HH.out.zD K2).zOo).before K2⟩):P:=h
theorem J147 (P:Prop) (h:P:=by exact ⟨T,_,hu,uW T id w,hk.mono (fun k _ e=>by rw [e];exact .inl h.G.tag)⟩):P:=h
theorem J194 (P:Prop) (h:P:=by rw [show ((m+1:Nat):Int) - 1=(m:Int) by omega];exact kK _ (by omega) (by omega)):P:=h
theorem J222 (P:Prop) (h:P:=by simpa [Value.ownBlock] using e1):P:=h
theorem J253 (P:Prop) (h:P:=by rw [show (f.left:Int) - 1=((f.left - 1:Nat):Int) by omega];exact kK _ (by omega) (by omega)):P:=h
def zBc (w:World) (F:Nat -> Prop) (f:WFr) (pv:Value):Prop :=
 (f.left <= 1 /\ ∃ v,pv=.iface 135 (.agg #[v]) /\ zBD w F f.rest v) ∨
 ∃ v v2,pv=.iface 142 (.agg #[v,v2, .int .i64 f.left]) /\ zBD w F f.rest v /\ zBD w F f.all v2
def zi:zBA WFr:=fun w F f cs=>∃ pv,cs=[pv] /\ zBc w F f pv
theorem zBc.keeps {S F:Nat -> Prop} {w w':World} {f:WFr} {pv:Value} (h:zBc w F f pv) (hk:Keeps S w w') (hS:∀ k,F k -> ¬ S k):zBc w' F f pv:=by
 rcases h with ⟨h0,v,e,h1⟩ | ⟨v,v2,e,h1,h2⟩
 ·exact .inl ⟨h0,v,e,h1.keeps hk hS⟩
 ·exact .inr ⟨v,v2,e,h1.keeps hk hS,h2.keeps hk hS⟩
theorem zU:zAX zi 1:=⟨fun h hk hS=>by obtain ⟨pv,e,h1⟩:=h;exact ⟨pv,e,h1.keeps hk hS⟩,fun h hF=>by
 obtain ⟨pv,e,h1⟩:=h;rcases h1 with ⟨h0,v,e1,h1⟩ | ⟨v,v2,e1,h1,h2⟩
 ·exact ⟨pv,e, .inl ⟨h0,v,e1,h1.mono hF⟩⟩
 ·exact ⟨pv,e, .inr ⟨v,v2,e1,h1.mono hF,h2.mono hF⟩⟩,
 fun h=>by obtain ⟨pv,e,_⟩:=h;rw [e];rfl⟩
theorem zBc.one {w:World} {F:Nat -> Prop} {f:WFr} {pv:Value} (h:zBc w F f pv):pv.oneCell'=true:=by
 rcases h with ⟨_,v,rfl,_⟩ | ⟨v,v2,rfl,_⟩ <;> rfl
theorem zJt (w:World) (g a:Nat) (ad:Option Addr) (cap:Nat) (hc:w.cell? ⟨g,a+2,none⟩=some (.slice ad 0 cap)) :
 Calls Tryz.prog 50 #[.pointer (some ⟨g,a,none⟩)] w fun e w'=>e=.returned .nilIface /\ Keeps zA w w':=by
 go_enter Tryz.func50,Tryz.ntmps50
 go_wp2_with fail
 go_ret
 exact ⟨rfl,zH w⟩
theorem zF3 (w:World) (g a gp m cap:Nat) (pv:Value) (hc:w.cell? ⟨g,a+2,none⟩=some (.slice (some ⟨gp,0,none⟩) (m+1) cap)) (hp:w.cell? ⟨gp,m,none⟩=some pv) (hm:m < 1000000000) (h1:pv.oneCell'=true) :
 Calls Tryz.prog 50 #[.pointer (some ⟨g,a,none⟩)] w fun e w'=>e=.returned pv /\ Keeps zA w w':=by
 have e1:IntKind.i64.wrap (((m+1:Nat):Int) - 1)=(m:Int):=J194 _;have e2:¬ ((m+1:Nat):Int)=0:=by omega
 have e3:(((m+1:Nat):Int)==0)=false:=yY e2;have i1:(0:Int) <= m:=by omega
 have i2:(m:Int) < ((m+1:Nat):Int):=by omega
 go_enter Tryz.func50,Tryz.ntmps50
 go_upto_region 3 with fail
 go_quiet (fail)
 go_wp2_with fail
 go_ret
 exact ⟨rfl,(zH w).drewN _⟩
theorem zMY:(Tryz.prog.info? 142).map (fun i=>(i.zero,i.size,i.bytes))=some (some (.agg #[.slice none 0 0, .slice none 0 0, .int .i64 0]),3,56):=by kernel_rfl
theorem zIE (v:Value) (w:World):(Instr.typeAssert (.iface 135 v) 103 142 true).run Tryz.prog w=.ok (.tuple #[.agg #[.slice none 0 0, .slice none 0 0, .int .i64 0], .bool false]) w:=by
 obtain ⟨j,hj,hz,_⟩:=info_parts zMY;simp [Instr.typeAssert,run_underlying Tryz.underlying142,typeInfo,zeroValue,hj,hz]
theorem zJq (v:Value) (w:World):(Instr.typeAssert (.iface 142 v) 103 142 true).run Tryz.prog w=.ok (.tuple #[v, .bool true]) w:=by
 simp [Instr.typeAssert,run_underlying Tryz.underlying142]
structure ThL (w:World) (T:zS) (F:Nat -> Prop) (id g i:Nat) (H:List HTh) (zM:List WTh) (t:WTh) (fs:List WFr) (f:WFr) (rv:Value) (gp cap:Nat) (css:List (List Value)) (pv:Value):Prop where
 G:zAV zi 1 103 w T F id g H zM
 th:zM[i]?=some t
 h:H[i]?=some ⟨t.st,rv, .slice (some ⟨gp,0,none⟩) (fs.length+1) cap⟩
 regs:zBQ w T id (.regs i) rv t.regs
 tag:T gp=some (id, .fs i)
 len:css.length=fs.length
 room:fs.length+1 <= cap
 flat:css.flatten.length=fs.length*1
 own:w.ownsRow 0 103 1 (.slice (some ⟨gp,0,none⟩) (fs.length+1) cap) (fs.length+1) (css.flatten++[pv])
 pl:zBc w F f pv
 pls:∀ (j:Nat) (y:WFr) (ds:List Value),fs[j]?=some y -> css[j]?=some ds -> zi w F y ds
theorem zAV.last {w:World} {T:zS} {F:Nat -> Prop} {id g i:Nat} {H:List HTh} {zM:List WTh} {t:WTh} {fs:List WFr} {f:WFr} (h:zAV zi 1 103 w T F id g H zM) (ht:zM[i]?=some t) (hf:t.fs=fs++[f]) :
 ∃ rv gp cap css pv,ThL w T F id g i H zM t fs f rv gp cap css pv:=by
 obtain ⟨rv,fv,hH,hr,hfs⟩:=h.get ht;rw [hf] at hfs;obtain ⟨gp,cap,css,cs,rfl,h1,h2,h3,h4,h5,⟨pv,rfl,h6⟩,h7,h8,_⟩:=zBV.split zU hfs;exact ⟨rv,gp,cap,css,pv,h,ht,hH,hr,h1,h2,h8,h3,h5,h6,h7⟩
namespace ThL
variable {w w':World} {T:zS} {F:Nat -> Prop} {id g i gp cap:Nat} {H:List HTh} {zM:List WTh} {t:WTh} {fs:List WFr} {f:WFr} {rv pv:Value} {css:List (List Value)}
theorem zD (h:ThL w T F id g i H zM t fs f rv gp cap css pv) (hk:Keeps zA w w'):ThL w' T F id g i H zM t fs f rv gp cap css pv :=
 ⟨vN zU h.G hk (fun _ _ h=>h),h.th,h.h,h.regs.keeps hk (fun _ _ h=>h),h.tag,h.len,h.room,h.flat,zG h.own hk (fun _ _ h=>h),h.pl.keeps hk (fun _ _ h=>h),fun j y ds e1 e2=>zU.keeps (h.pls j y ds e1 e2) hk (fun _ _ h=>h)⟩
theorem cell (h:ThL w T F id g i H zM t fs f rv gp cap css pv):w.cell? ⟨gp,fs.length,none⟩=some pv:=by
 have hr:=uC h.own;refine hr.cell ?_
 rw [xH (by rw [h.flat];omega),h.flat];simp
theorem free (h:ThL w T F id g i H zM t fs f rv gp cap css pv):w.frozen? ⟨gp,fs.length,none⟩=false :=
 (uC h.own).free (by rw [xU,h.flat];simp)
theorem fv (h:ThL w T F id g i H zM t fs f rv gp cap css pv):w.cell? ⟨g,i*3+2,none⟩=some (.slice (some ⟨gp,0,none⟩) (fs.length+1) cap):=(zAA h.G.row h.h).2.2
theorem zOT (h:ThL w T F id g i H zM t fs f rv gp cap css pv) {f':WFr} {pv':Value} (hp:zBc w F f' pv') :
 zAR zi 1 103 w T F id g i zM { t with fs:=fs++[f'] } (w.setCell ⟨gp,fs.length,none⟩ pv'):=by
 have hk:Keeps (fun k=>k=gp) w (w.setCell ⟨gp,fs.length,none⟩ pv'):=(yC (fun k=>k=gp) w).setCell (p:=⟨gp,fs.length,none⟩) (fun _=>rfl) _;have ho:=(World.ownsRow.stored h.own fs.length pv').1
 have e:(css.flatten++[pv]).set fs.length pv'=css.flatten++[pv']:=by
  rw [kN _ _ (by rw [h.flat];omega),h.flat];simp
 rw [e] at ho;have hF:∀ k,F k -> ¬ k=gp:=fun k hk e=>by have:=h.G.sep.sep k hk;rw [e,h.tag] at this;cases this
 have hgp:¬ g=gp:=fun e=>by have:=h.G.tag;rw [e,h.tag] at this;cases this
 have hj:=zBV.join (R:=zi) (F:=F) (T:=T) (i:=i) (f:=f') ho h.tag h.len ⟨pv',rfl,hp.keeps hk hF⟩ (fun j y ds e1 e2=>zU.keeps (h.pls j y ds e1 e2) hk hF)
 have hH:H.set i ⟨t.st,rv, .slice (some ⟨gp,0,none⟩) (fs.length+1) cap⟩=H:=by
  obtain ⟨q1,q2⟩:=yP.1 h.h;rw [<- q2,List.set_getElem_self]
 have hu:=zAV.upd (i:=i) (t':={ t with fs:=fs++[f'] }) zU h.G (uW T id w) (h.G.sep.keeps hk) (hk.mono (fun k _ e=>.inr (.inr (by rw [e];exact h.tag)))) (a':=⟨t.st,rv, .slice (some ⟨gp,0,none⟩) (fs.length+1) cap⟩) (by rw [hH];exact h.G.row.keeps hk hgp) rfl
  (h.regs.keeps hk (fun k e1 e2=>by rw [e2,h.tag] at e1;cases e1)) hj
 exact ⟨T,_,hu,uW T id w,hk.mono (fun k _ e=>by rw [e];exact .inr ⟨i, .inr h.tag⟩)⟩
theorem zOo (h:ThL w T F id g i H zM t fs f rv gp cap css pv):zAR zi 1 103 w T F id g i zM { t with fs:=fs } (w.setCell ⟨g,i*3+2,none⟩ (.slice (some ⟨gp,0,none⟩) fs.length cap)):=by
 obtain ⟨v',hv'⟩:=eX (Value.slice (some ⟨gp,0,none⟩) fs.length cap);rw [<- hv'];have hk:Keeps (fun k=>k=g) w (w.setCell ⟨g,i*3+2,none⟩ v'):=(yC (fun k=>k=g) w).setCell (p:=⟨g,i*3+2,none⟩) (fun _=>rfl) _;have hF:∀ k,F k -> ¬ k=g:=fun k hk e=>by have:=h.G.sep.sep k hk;rw [e,h.G.tag] at this;cases this
 have hgp:¬ gp=g:=fun e=>by have:=h.G.tag;rw [<- e,h.tag] at this;cases this
 have ho:=zG h.own hk (fun k e1 e2=>by have e3:gp=k:=(J222 _);exact hgp (e3.trans e2));have hj:=zBV.pop (R:=zi) (F:=F) (T:=T) (i:=i) (fs:=fs) ho h.tag h.len h.flat (fun j y ds e1 e2=>zU.keeps (h.pls j y ds e1 e2) hk hF);rw [<- hv'] at hj;have hrow:=zDK h.G.row h.h 2 (by decide) v' ⟨t.st,rv,v'⟩ rfl;have hu:=zAV.upd (i:=i) (t':={ t with fs:=fs }) zU h.G (uW T id w) (h.G.sep.keeps hk) (hk.mono (fun k _ e=>.inl e)) (a':=⟨t.st,rv,v'⟩) hrow rfl (h.regs.keeps hk (fun k e1 e2=>by rw [e2,h.G.tag] at e1;cases e1)) hj;exact J147 _
end ThL
theorem zCb (v:Value) (w:World) (hv:∃ a n c,v=.slice a n c):Calls Tryz.prog 232 #[.agg #[v]] w fun e w'=>e=.returned v /\ Keeps zA w w':=by
 obtain ⟨a,n,c,rfl⟩:=hv;go_enter Tryz.func232,Tryz.ntmps232
 exact J91 _
theorem zDu (v v2:Value) (k:Int) (w:World) (hv:∃ a n c,v=.slice a n c) (hv2:∃ a n c,v2=.slice a n c):Calls Tryz.prog 233 #[.agg #[v,v2, .int .i64 k]] w fun e w'=>e=.returned v /\ Keeps zA w w':=by
 obtain ⟨a,n,c,rfl⟩:=hv;obtain ⟨a2,n2,c2,rfl⟩:=hv2;go_enter Tryz.func233,Tryz.ntmps233
 exact J91 _
theorem zK {w:World} {p:Addr} (h:w.frozen? p=false) (hc:∃ v,w.cell? p=some v):∀ W,Keeps zA w W -> W.frozen? p=false:=fun W q=>by
 obtain ⟨v,hv⟩:=hc;have hb:=xP w p hv;rw [World.frozen?_of_block (q.block p.block hb (fun h=>h))];exact h
theorem zER {w:World} {T:zS} {F:Nat -> Prop} {id g i gp cap:Nat} {H:List HTh} {zM:List WTh} {t:WTh} {fs:List WFr} {f:WFr} {rv pv:Value} {css:List (List Value)} (h:ThL w T F id g i H zM t fs f rv gp cap css pv) {a:Ac} {r:List Ac} (hr:f.rest=a :: r) (hb:fs.length < 1000000) :
 Calls Tryz.prog 51 #[.pointer (some ⟨g,i*3,none⟩)] w fun e w'=>e=.returned (.tuple #[]) /\ zAR zi 1 103 w T F id g i zM { t with fs:=fs++[⟨r,f.all,f.left⟩] } w':=by
 have HH:=yB h;have c2:=zV h.fv;have cp:=zV h.cell;have fp:=zK h.free ⟨_,h.cell⟩;have hpl:=h.pl;have h1:=hpl.one;have HTL:∀ W,Keeps zA w W -> Calls Tryz.prog 50 #[.pointer (some ⟨g,i*3,none⟩)] W fun e w'=>e=.returned pv /\ Keeps zA W w':=fun W hk=>zF3 W g (i*3) gp fs.length cap pv (c2 W hk) (cp W hk) (by omega) h1
 have HT:Ret w 50 #[.pointer (some ⟨g,i*3,none⟩)] pv:=HTL;clear h HTL;generalize hm:fs.length=m at c2 cp fp hb;have HM:=yB hm;have e1:IntKind.i64.wrap (((m+1:Nat):Int) - 1)=(m:Int):=J194 _;have i1:(0:Int) <= m:=by omega
 have i2:(m:Int) < ((m+1:Nat):Int):=by omega
 have k0:=zH w;clear hm;rcases hpl with ⟨h0,v,rfl,hv⟩ | ⟨v,v2,rfl,hv,hv2⟩
 ·rw [hr] at hv
  obtain ⟨v',HL,hv'⟩:=hv.tail;obtain ⟨sa,sc,rfl⟩:=hv.slice;have HTA:=zIE (.agg #[.slice sa (r.length+1) sc]);obtain ⟨sb,sd,rfl⟩:=hv'.slice;simp only [xZ] at HL;go_enter Tryz.func51,Tryz.ntmps51
  go_upto_region 0 with fail
  go_quiet (fail)
  rename_i nq
  obtain ⟨w1,hw1⟩:=eX (w.drewN nq);rw [<- hw1];have k1:Keeps zA w w1:=by rw [hw1];exact k0.drewN _
  clear hw1;go_upto_region 5 with fail
  obtain ⟨b2,w2,e3,e4,R2,K2,_⟩:=newRow w1 [.slice none 0 0, .slice none 0 0, .int .i64 0] 142;rw [e3,e4];have k2:=k1.zB K2;clear e3 e4 K2 R2;go_wp2_with (first | (go_at_call 50;refine HT.call k2 ?_;intro w3 k3 _) | (go_at_call 232;refine (zCb _ _ ⟨_,_,_,rfl⟩).mono ?_;rintro e w4 ⟨rfl,g4⟩;have k4:=k3.zB g4;clear g4))
  go_returns
  exact ⟨rfl,by rw [<- HM.out];exact ((HH.out.zD k4).zOT (f':=⟨r,f.all,f.left⟩) (.inl ⟨h0,_,rfl,hv'.keeps k4 (fun _ _ h=>h)⟩)).before k4⟩
 ·rw [hr] at hv
  obtain ⟨v',HL,hv'⟩:=hv.tail;obtain ⟨sa,sc,rfl⟩:=hv.slice;obtain ⟨sb,sd,rfl⟩:=hv'.slice;obtain ⟨sg,sh,rfl⟩:=hv2.slice;simp only [xZ] at HL;have HTA:=zJq (.agg #[.slice sa (r.length+1) sc, .slice sg f.all.length sh, .int .i64 f.left]);go_enter Tryz.func51,Tryz.ntmps51
  go_upto_region 0 with fail
  go_quiet (fail)
  rename_i nq
  obtain ⟨w1,hw1⟩:=eX (w.drewN nq);rw [<- hw1];have k1:Keeps zA w w1:=by rw [hw1];exact k0.drewN _
  clear hw1;go_upto_region 3 with fail
  obtain ⟨b2,w2,e3,e4,R2,K2,_⟩:=newRow w1 [.slice sa (r.length+1) sc, .slice sg f.all.length sh, .int .i64 f.left] 142;rw [e3,e4];have k2:=k1.zB K2;have N:Hid (w.heap.size <= b2):=by show _ <= _;rw [<- e3];exact k1.size
  clear e3 e4 K2;have y:=R2.zB5;have z:=zK (R2.free (k:=0) (by simp)) ⟨_,R2.cell (k:=0) rfl⟩;have kk:=zH w2;go_upto_region 4 with fail
  have R3:=R2.set 0 (by simp) (.slice sb r.length sd);have K23:Keeps (fun q=>q=b2) w2 (w2.setCell ⟨b2,0,none⟩ (.slice sb r.length sd)):=(yC (fun q=>q=b2) w2).setCell (p:=⟨b2,0,none⟩) (fun _=>rfl) _;generalize w2.setCell ⟨b2,0,none⟩ (.slice sb r.length sd)=w3 at R3 K23 ⊢;have k3:Keeps zA w w3:=k2.trans K23 (fun q hq e=>by exact J252 _);have R3':zC w3 b2 [.slice sb r.length sd, .slice sg f.all.length sh, .int .i64 f.left]:=R3;have y3:=R3'.zB5;have kk3:=zH w3;clear y z kk R2 R3 R3' K23;go_wp2_with fail
  go_returns
  exact ⟨rfl,by rw [<- HM.out];exact ((HH.out.zD k3).zOT (f':=⟨r,f.all,f.left⟩) (.inr ⟨_,_,rfl,hv'.keeps k3 (fun _ _ h=>h),hv2.keeps k3 (fun _ _ h=>h)⟩)).before k3⟩
theorem zMo:Tryz.prog.underlying 84=some (.slice (Tryz.prog.elem 84)):=by simp [Program.elem,Tryz.underlying84]
theorem zHI:(Tryz.prog.info? 103).map (fun i=>(i.zero,i.size,i.bytes))=some (some .nilIface,1,16):=by kernel_rfl
theorem zOK (w:World):(Go.sizeOf (Tryz.prog.elem 84)).run Tryz.prog w=.ok 1 w:=by
 have he:Tryz.prog.elem 84=103:=by simp [Program.elem,Tryz.underlying84]
 obtain ⟨i0,hi0,hz0,hz1,hz2⟩:=info_parts zHI;rw [he];simp [go_sem,hi0,hz1]
theorem zOU {gp n cap k:Nat} (hk:k <= cap):∀ W,(Instr.slice 84 (.slice (some ⟨gp,0,none⟩) n cap) none (some (.int .i64 (k:Int))) none).run Tryz.prog W=.ok (.slice (some ⟨gp,0,none⟩) k cap) W:=fun W=>by
 rw [run_slice_h W 84 _ _ _ zMo .i64 _ (by omega) (by omega),zOK];simp [Result.andThen,sliced,Addr.add]
def zDT (fs:List WFr) (f:WFr):List WFr:=if 1 < f.left then fs++[⟨f.all,f.all,f.left - 1⟩] else fs
theorem zM4 {w:World} {T:zS} {F:Nat -> Prop} {id g i gp cap:Nat} {H:List HTh} {zM:List WTh} {t:WTh} {fs:List WFr} {f:WFr} {rv pv:Value} {css:List (List Value)} (h:ThL w T F id g i H zM t fs f rv gp cap css pv) (hb:fs.length < 1000000) (hl:f.left < 1000000) :
 Calls Tryz.prog 79 #[.pointer (some ⟨g,i*3,none⟩)] w fun e w'=>e=.returned (.tuple #[]) /\ zAR zi 1 103 w T F id g i zM { t with fs:=zDT fs f } w':=by
 have HH:=yB h;have c2:=zV h.fv;have cf:=zK (zCt h.G.row (by have:=(yP.1 h.h).1;exact this) 2 (by decide)) ⟨_,h.fv⟩;have cp:=zV h.cell;have fp:=zK h.free ⟨_,h.cell⟩;have hpl:=h.pl;have h1:=hpl.one;have HL:=zOU (gp:=gp) (n:=fs.length+1) (k:=fs.length) (cap:=cap) (by have:=h.room;omega);clear h;generalize hm:fs.length=m at c2 cp fp hb HL;have HM:=yB hm;have e1:IntKind.i64.wrap (((m+1:Nat):Int) - 1)=(m:Int):=J194 _;have i1:(0:Int) <= m:=by omega
 have i2:(m:Int) < ((m+1:Nat):Int):=by omega
 have k0:=zH w;clear hm;rcases hpl with ⟨h0,v,rfl,hv⟩ | ⟨v,v2,rfl,hv,hv2⟩
 ·obtain ⟨sa,sc,rfl⟩:=hv.slice
  have HTA:=zIE (.agg #[.slice sa f.rest.length sc]);have eo:zDT fs f=fs:=if_neg (by omega);rw [eo];clear eo;go_enter Tryz.func79,Tryz.ntmps79
  go_upto_region 2 with fail
  obtain ⟨b2,w2,e3,e4,R2,K2,_⟩:=newRow w [.slice none 0 0, .slice none 0 0, .int .i64 0] 142;rw [e3,e4];exact J123 _
 ·obtain ⟨sa,sc,rfl⟩:=hv.slice
  obtain ⟨sg,sh,rfl⟩:=hv2.slice;have HTA:=zJq (.agg #[.slice sa f.rest.length sc, .slice sg f.all.length sh, .int .i64 f.left]);generalize f.rest.length=zr at *;by_cases hgt:1 < f.left
  ·have eo:zDT fs f=fs++[⟨f.all,f.all,f.left - 1⟩]:=if_pos hgt
   rw [eo];have j1:(1:Int) < f.left:=by omega
   have j2:IntKind.i64.wrap ((f.left:Int) - 1)=((f.left - 1:Nat):Int):=J253 _;clear eo;go_enter Tryz.func79,Tryz.ntmps79
   go_upto_region 2 with fail
   obtain ⟨b2,w2,e3,e4,R2,K2,_⟩:=newRow w [.slice sa zr sc, .slice sg f.all.length sh, .int .i64 f.left] 142;rw [e3,e4];have y:=R2.zB5;have kk:=zH w2;clear e3 e4 R2;go_upto_region 3 with fail
   go_region
   go_wp2_with fail
   go_returns
   exact ⟨rfl,by rw [<- HM.out];exact (((HH.out.zD K2).zOT (f':=⟨f.all,f.all,f.left - 1⟩) (.inr ⟨_,_,rfl,hv2.keeps K2 (fun _ _ h=>h),hv2.keeps K2 (fun _ _ h=>h)⟩)).before K2).after zU ((zH _).drew)⟩
  ·have eo:zDT fs f=fs:=if_neg hgt
   rw [eo];have j1:¬ (1:Int) < f.left:=by omega
   clear eo;go_enter Tryz.func79,Tryz.ntmps79
   go_upto_region 2 with fail
   obtain ⟨b2,w2,e3,e4,R2,K2,_⟩:=newRow w [.slice sa zr sc, .slice sg f.all.length sh, .int .i64 f.left] 142;rw [e3,e4];have y:=R2.zB5;have kk:=zH w2;exact J123 _
section
variable {R:zBA WFr} {sz:Nat} {ty:TypeId} {w w2:World} {T:zS} {F:Nat -> Prop} {id g i:Nat} {H:List HTh} {zM:List WTh} {t:WTh} {rv fv:Value} {css:List (List Value)} {f:WFr} {cs:List Value} {ad:Option Addr} {cap:Nat}
theorem zAV.app (h:zAV R sz ty w T F id g H zM) (hH:H[i]?=some ⟨t.st,rv,fv⟩) (h3:∀ kb,fv.ownBlock=some kb -> T kb=some (id, .fs i)) {n:Nat} {xs:List Value} (ha:zAB w 0 ty sz fv n xs ad cap w2) :
 Keeps (fun q=>T q=some (id, .fs i)) w w2 /\ zC w2 g (zAO H) /\ w2.cell? ⟨g,i*3+2,none⟩=some fv /\ w2.frozen? ⟨g,i*3+2,none⟩=false:=by
 have hk:Keeps (fun q=>T q=some (id, .fs i)) w w2:=xV ha (yC _ _) (fun q e _=>h3 q e);have hg:¬ T g=some (id, .fs i):=fun e=>by rw [h.tag] at e;cases e
 have hr:=h.row.keeps hk hg;exact ⟨hk,hr,(zAA hr hH).2.2,zCt hr ((yP.1 hH).1) 2 (by decide)⟩
theorem zAV.zJh (L:zAX R sz) (h:zAV R sz ty w T F id g H zM) (hH:H[i]?=some ⟨t.st,rv,fv⟩) (hr:zBQ w T id (.regs i) rv t.regs) (h1:css.length=t.fs.length) (h3:∀ kb,fv.ownBlock=some kb -> T kb=some (id, .fs i))
 (h5:∀ (j:Nat) (y:WFr) (ds:List Value),t.fs[j]?=some y -> css[j]?=some ds -> R w F y ds) (hR:R w F f cs) (ha:zAB w 0 ty sz fv (t.fs.length+1) (css.flatten++cs) ad cap w2) :
 zAR R sz ty w T F id g i zM { t with fs:=t.fs++[f] } (w2.setCell ⟨g,i*3+2,none⟩ (.slice ad (t.fs.length+1) cap)):=by
 obtain ⟨hk,hrow,hc,_⟩:=h.app hH h3 ha;obtain ⟨g6,c6,e6,_⟩:=ha.1.form (by omega);simp only [uJ,true_and] at e6;obtain ⟨rfl,rfl⟩:=e6;have hlt6:g6 < w2.heap.size:=zO ha.1 rfl
 have hg6:T g6=some (id, .fs i) \/ (T g6=none /\ w.heap.size <= g6 /\ ¬ F g6):=by
  rcases ha.2.2 g6 rfl with h6 | h6
  ·exact .inl (h3 g6 h6)
  ·have:=h.sep.free (g:=g6) (by omega)
   exact .inr ⟨this.1,by omega,this.2⟩
 have hnF:¬ F g6:=by
  rcases hg6 with h6 | h6
  ·intro hf;have:=h.sep.sep g6 hf;rw [h6] at this;cases this
  ·exact h6.2.2
 have hext:zAG T (zCk T id (.fs i) g6) id w:=zCG (hg6.imp (fun h=>h) (fun h=>⟨h.1,h.2.1⟩));obtain ⟨v',hv'⟩:=eX (Value.slice (some ⟨g6,0,none⟩) (t.fs.length+1) cap);rw [<- hv'];have hk2:Keeps (fun q=>q=g) w2 (w2.setCell ⟨g,i*3+2,none⟩ v'):=(yC (fun q=>q=g) w2).setCell (p:=⟨g,i*3+2,none⟩) (fun _=>rfl) _;have hkt:Keeps (fun k=>k=g \/ T k=some (id, .fs i)) w (w2.setCell ⟨g,i*3+2,none⟩ v'):=(hk.mono (fun k _ e=>.inr e)).trans hk2 (fun k _ e=>.inl e);have hkk:Keeps (fun k=>k=g \/ T k=some (id, .regs i) \/ T k=some (id, .fs i)) w (w2.setCell ⟨g,i*3+2,none⟩ v'):=hkt.mono (fun k _ e=>e.imp (fun h=>h) .inr)
 have hgg:¬ g6=g:=fun e=>by
  rcases hg6 with h6 | h6
  ·rw [e,h.tag] at h6;cases h6
  ·rw [e,h.tag] at h6;cases h6.1
 have hFt:∀ k,F k -> ¬ (k=g \/ T k=some (id, .fs i)):=fun k hk e=>by
  have:=h.sep.sep k hk
  rcases e with e | e
  ·rw [e,h.tag] at this;cases this
  ·rw [e] at this;cases this
 have ho:=zG ha.1 hk2 (fun q e1 e2=>by
  have e3:g6=q:=(J222 _);exact hgg (e3.trans e2))
 have hj:=zBV.join (R:=R) (F:=F) (T:=zCk T id (.fs i) g6) (id:=id) (i:=i) (fs:=t.fs) (f:=f) ho (zCZ _ _ _ _) h1 (L.keeps hR hkt hFt) (fun j y ds e1 e2=>L.keeps (h5 j y ds e1 e2) hkt hFt);rw [<- hv'] at hj
 have hu:=zAV.upd (i:=i) (t':={ t with fs:=t.fs++[f] }) L h hext ((h.sep.keeps hkk).tag (yI hlt6 hk2.size) hnF) hkk (a':=⟨t.st,rv,v'⟩) (zDK hrow hH 2 (by decide) v' ⟨t.st,rv,v'⟩ rfl) rfl
  ((hr.keeps hkt (fun q e1 e2=>by
    rcases e2 with e2 | e2
    ·rw [e2,h.tag] at e1;cases e1
    ·rw [e2] at e1;cases e1)).ext hext.1) hj
 exact ⟨_,_,hu,hext,zFA h hkk⟩
end
end Go.Proofs.YtfokdllgnblamaaGreatDoor
