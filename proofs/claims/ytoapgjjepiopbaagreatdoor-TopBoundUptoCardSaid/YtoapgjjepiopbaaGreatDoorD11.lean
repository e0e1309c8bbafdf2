/- Layer D: texts joined. -/
import Derived.Test.YtoapgjjepiopbaaGreatDoorD10
import Derived.Deep.CutBlock
set_option linter.all false
set_option maxHeartbeats 8000000
set_option maxRecDepth 8000
namespace Go.Proofs.YtoapgjjepiopbaaGreatDoor
open Go.RowKit
theorem J32(P:Prop) (h:P:=by
 split at h
 ·obtain⟨ad2,cp2,e,h1,h2⟩:=h;exact⟨ad2,cp2,e,h1.keeps hk (λ_ _ h=>h),h2⟩
 ·obtain⟨ad2,cp2,e,h1,h2⟩:=h;exact⟨ad2,cp2,e,h1.keeps hk (λ_ _ h=>h),h2⟩
 ·obtain⟨ad2,cp2,e,h1,h2⟩:=h;exact⟨ad2,cp2,e,h1.keeps hk (λ_ _ h=>h),h2⟩
 ·obtain⟨xa2,xc2,ta2,tc2,ea2,ec2,e,h1,h2,h3,h4⟩:=h;exact⟨xa2,xc2,ta2,tc2,ea2,ec2,e,⟨h1.1.keeps hk (λ_ _ h=>h),h1.2⟩,⟨h2.1.keeps hk (λ_ _ h=>h),h2.2⟩,h3.keeps hk (λ_ _ h=>h),h4⟩
 ·obtain⟨b,e,h1,h2,h3,h4⟩:=h;exact⟨b,e,h1,h2,h3,h4.keeps hk (λh=>h)⟩):P:=h
theorem J49(P:Prop) (h:P:=by
 go_meet
 case rel=>exact⟨KI.out.setCell (p:=⟨b8,2,none⟩) (λ_=>rfl) _,by show zB _ _ _;rw[Q12.out.1,Q12.out.2];exact RI.out.set 2 (by simp) _⟩):P:=h
theorem J89(P:Prop) (h:P:=by
 clear hd;go_wp2_with fail
 exact hK _ _ ((yB _ _).alloc _) ⟨by simp,_,rfl,rfl,by show _<_;simp[zGJ],HB7.out,yK (yG W _)⟩):P:=h
theorem J119(P:Prop)(h:P:=by exact hK _ _ g1 ⟨by simp,ad2,cp2,rfl,s1,HB7.out⟩):P:=h
theorem J135(P:Prop) (h:P:=by
 have e2:vs 2=_:=hd 2 (by kernel_rfl);rw[e2] at hK ⊢;exact J2 _):P:=h
theorem J151(P:Prop) (h:P:=by
 have e5:vs 5=_:=hd 5 (by kernel_rfl);rw[e5] at hK ⊢;exact J2 _):P:=h
theorem J175(P:Prop)(h:P:=by rw[hTP];exact⟨by have:=hk.1;omega,by have:=hk.2;omega,λe=>by have:=hk.1;have:=hk.2;omega⟩):P:=h
theorem Ac.zBq(u:Un)(regs:Int)(l:List Ac):(Ac.zS u regs l).length=l.length:=by rw[Ac.zAY];simp
theorem Ac.zNv(u:Un)(regs:Int)(x:Ac):x.named u regs=.mk (zCY x.kind x.reg x.obj) (if (fields x.kind).reg then nameAt regs x.reg else zw) (stName u x.kind x.obj) (x.ex.named regs) x.count (Ac.zS u regs x.thn) (Ac.zS u regs x.els):=by
 cases x;rfl
theorem zED(k:Int):(fields k).reg=zCg k:=by
 rcases zEe k with rfl|rfl|rfl|rfl|rfl|rfl|rfl|rfl|rfl|rfl|rfl|h
 case' inr.inr.inr.inr.inr.inr.inr.inr.inr.inr.inr =>
  rw[zDt h];have n1:¬k=1:=by omega
  have n2:¬k=2:=by omega
  have n4:¬k=4:=by omega
  simp[zCg,n1,n2,n4]
 all_goals rfl
theorem zDg(u:Un)(k:Int):(zB3 k=1/\(fields k).name=true/\zBJ u k=u.cells.length)\/(zB3 k=2/\(fields k).name=true/\zBJ u k=u.mutexes)\/(zB3 k=3/\(fields k).name=true/\zBJ u k=u.threads.length)\/(zB3 k=0/\(fields k).name=false):=by
 rcases zEe k with rfl|rfl|rfl|rfl|rfl|rfl|rfl|rfl|rfl|rfl|rfl|h
 case' inr.inr.inr.inr.inr.inr.inr.inr.inr.inr.inr =>
  refine .inr (.inr (.inr ⟨?_,by rw[zDt h]⟩))
  unfold zB3;repeat' (first|rw[if_neg (by omega)])
 all_goals first
  | exact .inl ⟨rfl,rfl,rfl⟩
  | exact .inr (.inl ⟨rfl,rfl,rfl⟩)
  | exact .inr (.inr (.inl ⟨rfl,rfl,rfl⟩))
  | exact .inr (.inr (.inr ⟨rfl,rfl⟩))
def In(p:Nat × Nat)(k:Nat):Prop:=p.1<=k/\k<p.2
def zDl(L:List (Option Value))(Sp:Nat->Value->(Nat->Nat × Nat)->World->Prop)(j:Nat)(v:Value)(gs:Nat->Nat × Nat)(W:World):Prop:=
 match L[j]? with
 | some (some u)=>v=u
 | _=>Sp j v gs W
theorem zDl.st{L:List (Option Value)}{Sp:Nat->Value->(Nat->Nat × Nat)->World->Prop}(hs:∀j v gs W W',Sp j v gs W->Keeps zA W W'->Sp j v gs W')(j:Nat)(v:Value)(gs:Nat->Nat × Nat)(W W':World)(h:zDl L Sp j v gs W)(hk:Keeps zA W W'):zDl L Sp j v gs W':=by
 unfold zDl at *;split at h
 ·exact h
 ·exact hs _ _ _ _ _ h hk
theorem zDl.loc{L:List (Option Value)}{Sp:Nat->Value->(Nat->Nat × Nat)->World->Prop}{D:Nat->List Nat}(hs:∀j v gs gs' W,(∀a,a∈D j->gs a=gs' a)->Sp j v gs W->Sp j v gs' W)(j:Nat)(v:Value)(gs gs':Nat->Nat × Nat)(W:World)(hg:∀a,a∈D j->gs a=gs' a)(h:zDl L Sp j v gs W):zDl L Sp j v gs' W:=by
 unfold zDl at *;split at h
 ·exact h
 ·exact hs _ _ _ _ _ hg h
def nsD(j:Nat):List Nat:=
 match j with
 | 7=>[7]
 | 11=>[11]
 | 15=>[15]
 | 16=>[7,11,15]
 | 17=>[17]
 | _=>[]
def zAo:List Value:=[.int .i64 0,.string { data:=#[] },.string { data:=#[] },.int .i64 0,.int .i64 0,.string { data:=#[] },.slice none 0 0,.int .i64 0,.slice none 0 0,.slice none 0 0]
def zEX(B0:Nat)(x0 x7:Int)(y:Ex)(pt pe:List St)(j:Nat)(v:Value)(gs:Nat->Nat × Nat)(W:World):Prop:=
 match j with
 | 7=>∃ad2 cp2,v=.agg #[y.kind,y.num,y.nm,.slice ad2 y.args.length cp2]/\zR W (In (gs 7)) y.args ad2/\B0<=(gs 7).1
 | 11=>∃ad2 cp2,v=.slice ad2 pt.length cp2/\zx W (In (gs 11)) pt ad2/\B0<=(gs 11).1
 | 15=>∃ad2 cp2,v=.slice ad2 pe.length cp2/\zx W (In (gs 15)) pe ad2/\B0<=(gs 15).1
 | 16=>∃xa2 xc2 ta2 tc2 ea2 ec2,v=.agg #[x0,.string { data:=#[] },.string { data:=#[] },y.kind,y.num,y.nm,.slice xa2 y.args.length xc2,x7,.slice ta2 pt.length tc2,.slice ea2 pe.length ec2]/\(zR W (In (gs 7)) y.args xa2/\B0<=(gs 7).1)/\(zx W (In (gs 11)) pt ta2/\B0<=(gs 11).1)/\zx W (In (gs 15)) pe ea2/\B0<=(gs 15).1
 | _=>∃b,v=.pointer (some ⟨b,0,none⟩)/\b=(gs 17).1/\b<(gs 17).2/\B0<=(gs 17).1/\zB W b zAo
theorem zEX.st{B0:Nat}{x0 x7:Int}{y:Ex}{pt pe:List St}(j:Nat)(v:Value)(gs:Nat->Nat × Nat)(W W':World)(h:zEX B0 x0 x7 y pt pe j v gs W)(hk:Keeps zA W W'):zEX B0 x0 x7 y pt pe j v gs W':=by
 unfold zEX at *;exact J32 _
theorem zEX.loc{B0:Nat}{x0 x7:Int}{y:Ex}{pt pe:List St}(j:Nat)(hj:j=7\/j=11\/j=15\/j=16\/j=17)(v:Value)(gs gs':Nat->Nat × Nat)(W:World)(hg:∀a,a∈nsD j->gs a=gs' a)(h:zEX B0 x0 x7 y pt pe j v gs W):zEX B0 x0 x7 y pt pe j v gs' W:=by
 rcases hj with rfl|rfl|rfl|rfl|rfl
 ·have e:=hg 7 (by simp[nsD]);unfold zEX at *;simp only[] at *;rw[<-e];exact h
 ·have e:=hg 11 (by simp[nsD]);unfold zEX at *;simp only[] at *;rw[<-e];exact h
 ·have e:=hg 15 (by simp[nsD]);unfold zEX at *;simp only[] at *;rw[<-e];exact h
 ·have e7:=hg 7 (by simp[nsD]);have e11:=hg 11 (by simp[nsD]);have e15:=hg 15 (by simp[nsD]);unfold zEX at *;simp only[] at *;rw[<-e7,<-e11,<-e15];exact h
 ·have e:=hg 17 (by simp[nsD]);unfold zEX at *;simp only[] at *;rw[<-e];exact h
def zRm(B0:Nat)(x0 x7:Int)(y:Ex)(pt pe:List St)(j:Nat)(v:Value)(gs:Nat->Nat × Nat)(W:World):Prop:=
 (j=7\/j=11\/j=15\/j=16\/j=17)/\zEX B0 x0 x7 y pt pe j v gs W
theorem zIz(u:Un)(n0 n1 n2 n3:Nat)(e0:n0=u.cells.length)(e1:(n1:Int)=u.mutexes)(e2:n2=u.threads.length)(x0 x1 x2:Int):
 (if zB3 x0=0/\¬x2=0 then 0 else (if zCg x0=false/\¬x1=0 then 0 else x0))=zCY x0 x1 x2/\(if zCg x0=true then nameAt n3 x1 else zw)=(if (fields x0).reg then nameAt n3 x1 else zw) ∧
 (if zB3 x0=1 then nameAt n0 x2 else if zB3 x0=2 then nameAt n1 x2 else if zB3 x0=3 then nameAt n2 x2 else zw)=stName u x0 x2:=by
 refine⟨?_,by rw[zED],?_⟩
 ·unfold zCY
  rw[zED];rcases zDg u x0 with⟨h1,h2,_⟩|⟨h1,h2,_⟩|⟨h1,h2,_⟩|⟨h1,h2⟩ <;> rw[h1,h2] <;> cases zCg x0 <;> by_cases a:x1=0 <;> by_cases b:x2=0 <;> simp[a,b]
 ·unfold stName
  rcases zDg u x0 with⟨h1,h2,h3⟩|⟨h1,h2,h3⟩|⟨h1,h2,h3⟩|⟨h1,h2⟩
  ·rw[h1,h2,h3,e0];simp
  ·rw[h1,h2,h3,<-e1];simp
  ·rw[h1,h2,h3,e2];simp
  ·rw[h1,h2];simp
theorem Acc.later{α:Type}{R:zA5 α}{G:Nat->Prop}{B sz:Nat}{ty:TypeId}{w w':World}{v:Value}{xs:List α}{css:List (List Value)}(L:zAU R sz)(h:Acc R G B sz ty w v xs css)(hG:∀k,G k->k<w.heap.size){S:Nat->Prop}(hk:Keeps S w w')(hS:∀k,S k->w.heap.size<=k):Acc R G B sz ty w' v xs css:=by
 obtain⟨h1,h2,h3,h4,h5⟩:=h;refine⟨h1,zD h2 hk (λk e hs=>?_),h3,h4,λi x cs e1 e2=>?_⟩
 ·have:=zM h2 e;have:=hS k hs;omega
 ·refine L.mono (L.keeps (h5 i x cs e1 e2) hk (λk hf hs=>?_)) (λk hf=>?_)
  ·have h6:=hS k hs
   rcases hf with hf|⟨_,hf,_⟩
   ·have:=hG k hf;omega
   ·omega
  ·exact J115 _
def zJV(l:List Ac):Prop:=∀(u:Un)(w:World)(F N:Nat->Prop)(ad a0 a1 a2 a3:Option Addr)(cap n0 n1 n2 n3 c0 c1 c2 c3:Nat),zAl w F l ad →
 zk w N (.slice a0 n0 c0) n0->zk w N (.slice a1 n1 c1) n1->zk w N (.slice a2 n2 c2) n2->zk w N (.slice a3 n3 c3) n3->n0=u.cells.length->(n1:Int)=u.mutexes->n2=u.threads.length->(∀k,N k->k<w.heap.size)->(∀k,F k->k<w.heap.size)->Ac.szL l<1000000000 →
 Calls Tryz.prog 88 #[.agg #[.slice a0 n0 c0,.slice a1 n1 c1,.slice a2 n2 c2,.slice a3 n3 c3],.slice ad l.length cap] w λe w'=>∃ad' cap',e=.returned (.slice ad' l.length cap')/\zx w' (Since w.heap.size w') (Ac.zS u n3 l) ad'/\Keeps zA w w'
theorem zHx(l:List Ac)(ih:∀y,y∈l->zJV y.thn/\zJV y.els):zJV l:=by
 intro u w F N ad a0 a1 a2 a3 cap n0 n1 n2 n3 c0 c1 c2 c3 h hn0 hn1 hn2 hn3 e0 e1 e2 hNs hFs hb
 have HL:=yA h;have IH:=yA ih;have HNs:=yA hNs;have HFs:=yA hFs;have HN0:=yA hn0;have HN1:=yA hn1;have HN2:=yA hn2;have HN3:=yA hn3;have HEN:Hid (n0=u.cells.length/\(n1:Int)=u.mutexes/\n2=u.threads.length):=⟨e0,e1,e2⟩;have hl:=Ac.zAe l;have hb2:l.length<1000000000:=by omega
 have HB:=yA hb;obtain⟨j0,hj0,hz0,hz1,hz2⟩:=info_parts zI1;clear h hn0 hn1 hn2 hn3 e0 e1 e2 hNs hFs ih hl hb;go_enter Tryz.func88,Tryz.ntmps88
 go_upto_region 1 with fail
 obtain⟨b2,hb2'⟩:=eX w.heap.size;have hr2:zB (w.alloc (.cells #[.slice a0 n0 c0,.slice a1 n1 c1,.slice a2 n2 c2,.slice a3 n3 c3] 185)) b2 [.slice a0 n0 c0,.slice a1 n1 c1,.slice a2 n2 c2,.slice a3 n3 c3]:=by rw[hb2'];exact yK (yG w _)
 have hk2:Keeps zA w (w.alloc (.cells #[.slice a0 n0 c0,.slice a1 n1 c1,.slice a2 n2 c2,.slice a3 n3 c3] 185)):=(yB _ _).alloc _;rw[<-hb2'];generalize w.alloc (.cells #[.slice a0 n0 c0,.slice a1 n1 c1,.slice a2 n2 c2,.slice a3 n3 c3] 185)=w1 at hr2 hk2 ⊢;have R2:=yA hr2;have K1:=yA hk2;obtain⟨B,hB⟩:=eX w1.heap.size;have HBE:Hid (B=w1.heap.size/\w.heap.size<=B):=⟨hB,by have:=K1.out.size;omega⟩;clear hr2 hk2 hb2' hB;go_wp2_with fail
 go_loopw [5,11] (λov iv wr=>∃(i:Nat)(da:Option Addr)(dc:Nat)(css:List (List Value)),i<=l.length/\ov=.slice da i dc/\iv=.int .i64 i/\Hid (Acc zCA (λ_=>False) B 10 191 wr (.slice da i dc) (Ac.zS u n3 (l.take i)) css)/\Hid (Keeps zA w1 wr)) (λ_ iv _=>l.length-(intOf iv).toNat)
 case atStart=>exact⟨0,none,0,[],yF _,rfl,rfl,Acc.nil w1,yB _ _⟩
 case round =>
  obtain⟨i,da,dc,css,hi,rfl,rfl,HA,HK⟩:=hrel;by_cases hlt:i<l.length
  ·have i1:(0:Int)<=i:=by omega
   have i2:(i:Int)<l.length:=by omega
   have HKw:Hid (Keeps zA w wr):=K1.out.zC HK.out;obtain⟨g,o,xa,xc,ta,tc,ea,ec,e1,hg,d0,d1,d2,d3,d4,d5,d6,d7,d8,d9,hx,hxt,hxe⟩:=(HL.out.keeps HKw.out (λ_ _ h=>h)).at hlt;subst e1;have hIHi:=IH.out _ (yI hlt);have hszi:l[i].sz<1000000000:=by have:=Ac.zCI (yI hlt);have:=HB.out;omega
   rw[Ac.zCZ] at hszi;have hlF:∀W,Keeps zA wr W->∀k,F k->k<W.heap.size:=λW hW k hk=>yH (HFs.out k hk) (yX HKw.out.size hW.size)
   have hlN:∀W,Keeps zA wr W->∀k,N k->k<W.heap.size:=λW hW k hk=>yH (HNs.out k hk) (yX HKw.out.size hW.size)
   have hN:∀W,Keeps zA wr W->zk W N (.slice a0 n0 c0) n0/\zk W N (.slice a1 n1 c1) n1/\zk W N (.slice a2 n2 c2) n2/\zk W N (.slice a3 n3 c3) n3:=λW hW =>
    ⟨HN0.out.keeps (HKw.out.zC hW) (λ_ _ h=>h),HN1.out.keeps (HKw.out.zC hW) (λ_ _ h=>h),HN2.out.keeps (HKw.out.zC hW) (λ_ _ h=>h),HN3.out.keeps (HKw.out.zC hW) (λ_ _ h=>h)⟩
   have HNW:=yA hN
   have HX:Hid (∀W,Keeps zA wr W->Calls Tryz.prog 143 #[.agg #[.slice a0 n0 c0,.slice a1 n1 c1,.slice a2 n2 c2,.slice a3 n3 c3],.agg #[.int .i64 l[i].ex.kind,.int .i64 l[i].ex.num,.string l[i].ex.nm,.slice xa l[i].ex.args.length xc]] W λe w'=>∃ad' cap',e=.returned (exV (l[i].ex.named n3) ad' cap')/\zR w' (Since W.heap.size w') (l[i].ex.named n3).args ad'/\Keeps zA W w'):=
    λW hk=>zRX l[i].ex W F N xa a0 a1 a2 a3 xc n0 n1 n2 n3 c0 c1 c2 c3 (hx.keeps hk (λ_ _ h=>h)) (hN W hk).2.2.2 (hlN W hk) (hlF W hk) (by omega)
   have HT:Hid (∀W,Keeps zA wr W->Calls Tryz.prog 88 #[.agg #[.slice a0 n0 c0,.slice a1 n1 c1,.slice a2 n2 c2,.slice a3 n3 c3],.slice ta l[i].thn.length tc] W λe w'=>∃ad' cap',e=.returned (.slice ad' l[i].thn.length cap')/\zx w' (Since W.heap.size w') (Ac.zS u n3 l[i].thn) ad'/\Keeps zA W w'):=
    λW hk=>hIHi.1 u W F N ta a0 a1 a2 a3 tc n0 n1 n2 n3 c0 c1 c2 c3 (hxt.keeps hk (λ_ _ h=>h)) (hN W hk).1 (hN W hk).2.1 (hN W hk).2.2.1 (hN W hk).2.2.2 HEN.out.1 HEN.out.2.1 HEN.out.2.2 (hlN W hk) (hlF W hk) (by omega)
   have HE:Hid (∀W,Keeps zA wr W->Calls Tryz.prog 88 #[.agg #[.slice a0 n0 c0,.slice a1 n1 c1,.slice a2 n2 c2,.slice a3 n3 c3],.slice ea l[i].els.length ec] W λe w'=>∃ad' cap',e=.returned (.slice ad' l[i].els.length cap')/\zx w' (Since W.heap.size w') (Ac.zS u n3 l[i].els) ad'/\Keeps zA W w'):=
    λW hk=>hIHi.2 u W F N ea a0 a1 a2 a3 ec n0 n1 n2 n3 c0 c1 c2 c3 (hxe.keeps hk (λ_ _ h=>h)) (hN W hk).1 (hN W hk).2.1 (hN W hk).2.2.1 (hN W hk).2.2.2 HEN.out.1 HEN.out.2.1 HEN.out.2.2 (hlN W hk) (hlF W hk) (by omega)
   obtain⟨pt,hpt⟩:=eX (Ac.zS u n3 l[i].thn);obtain⟨pe,hpe⟩:=eX (Ac.zS u n3 l[i].els);obtain⟨y,hy⟩:=eX (l[i].ex.named n3);have hlt2:l[i].thn.length=pt.length:=by rw[hpt,Ac.zBq]
   have hle2:l[i].els.length=pe.length:=by rw[hpe,Ac.zBq]
   have HP:Hid (l[i].named u n3=.mk (zCY l[i].kind l[i].reg l[i].obj) (if (fields l[i].kind).reg then nameAt n3 l[i].reg else zw) (stName u l[i].kind l[i].obj) y l[i].count pt pe):=by show _=_;rw[Ac.zNv,hpt,hpe,hy]
   rw[<-hpt,hlt2] at HT;rw[<-hpe,hle2] at HE;rw[<-hy] at HX;rw[hlt2] at d8;rw[hle2] at d9;obtain⟨x8,q8⟩:=eX pt.length;obtain⟨x9,q9⟩:=eX pe.length;rw[<-q8] at d8;rw[<-q9] at d9;have HQ:Hid (x8=pt.length/\x9=pe.length):=⟨q8,q9⟩;have HT':Hid (∀W,Keeps zA wr W->Calls Tryz.prog 88 #[.agg #[.slice a0 n0 c0,.slice a1 n1 c1,.slice a2 n2 c2,.slice a3 n3 c3],.slice ta x8 tc] W λe w'=>∃ad' cap',e=.returned (.slice ad' pt.length cap')/\zx w' (Since W.heap.size w') pt ad'/\Keeps zA W w'):=by rw[q8];exact HT.out
   have HE':Hid (∀W,Keeps zA wr W->Calls Tryz.prog 88 #[.agg #[.slice a0 n0 c0,.slice a1 n1 c1,.slice a2 n2 c2,.slice a3 n3 c3],.slice ea x9 ec] W λe w'=>∃ad' cap',e=.returned (.slice ad' pe.length cap')/\zx w' (Since W.heap.size w') pe ad'/\Keeps zA W w'):=by rw[q9];exact HE.out
   clear hIHi hszi hlF hlN hN hx hxt hxe hpt hpe hlt2 hle2 hy HT HE q8 q9;have HT:=HT';have HE:=HE';clear HT' HE';generalize l[i].kind=x0 at d0 HP;generalize l[i].reg=x1 at d1 HP;generalize l[i].obj=x2 at d2 HP;generalize l[i].ex.kind=x3 at d3 HX;generalize l[i].ex.num=x4 at d4 HX;generalize l[i].ex.nm=x5 at d5 HX;generalize l[i].ex.args.length=x6 at d6 HX;generalize l[i].count=x7 at d7 HP;go_upto_region 5 with fail
   obtain⟨b7,hb7⟩:=eX wr.heap.size;have hr7:zB (wr.alloc (.cells #[x0,x1,x2,x3,x4,x5,.slice xa x6 xc,x7,.slice ta x8 tc,.slice ea x9 ec] 146)) b7 [.int .i64 x0,.int .i64 x1,.int .i64 x2,.int .i64 x3,.int .i64 x4,.string x5,.slice xa x6 xc,.int .i64 x7,.slice ta x8 tc,.slice ea x9 ec]:=J174 _;have hk7:Keeps zA wr (wr.alloc (.cells #[x0,x1,x2,x3,x4,x5,.slice xa x6 xc,x7,.slice ta x8 tc,.slice ea x9 ec] 146)):=(yB _ _).alloc _;have hs7:b7<(wr.alloc (.cells #[x0,x1,x2,x3,x4,x5,.slice xa x6 xc,x7,.slice ta x8 tc,.slice ea x9 ec] 146)).heap.size:=by rw[hb7];simp
   rw[<-hb7];generalize wr.alloc (.cells #[x0,x1,x2,x3,x4,x5,.slice xa x6 xc,x7,.slice ta x8 tc,.slice ea x9 ec] 146)=w7 at hr7 hk7 hs7 ⊢;have R7:=yA hr7;have K7:=yA hk7;have S7:=yA hs7;clear hr7 hk7 hs7 hb7 d0 d1 d2 d3 d4 d5 d6 d7 d8 d9;refine zCJ 18 (by kernel_rfl) (by kernel_rfl) nsD (by kernel_rfl) (Keeps zA) (yB zA) (λa b c h h'=>xJ h h') (λa b h=>h.size) (zDl [some (.pointer (some ⟨b7,0,none⟩)),some (.int .i64 x0),some (.pointer (some ⟨b7,7,none⟩)),some (.int .i64 x7),some (.agg #[.slice a0 n0 c0,.slice a1 n1 c1,.slice a2 n2 c2,.slice a3 n3 c3]),some (.pointer (some ⟨b7,3,none⟩)),some (.agg #[x3,x4,x5,.slice xa x6 xc]),none,some (.agg #[.slice a0 n0 c0,.slice a1 n1 c1,.slice a2 n2 c2,.slice a3 n3 c3]),some (.pointer (some ⟨b7,8,none⟩)),some (.slice ta x8 tc),none,some (.agg #[.slice a0 n0 c0,.slice a1 n1 c1,.slice a2 n2 c2,.slice a3 n3 c3]),some (.pointer (some ⟨b7,9,none⟩)),some (.slice ea x9 ec)] (zRm w7.heap.size x0 x7 y pt pe)) (zDl.st (λj v gs W W' h hk=>⟨h.1,zEX.st j v gs W W' h.2 hk⟩)) (zDl.loc (D:=nsD) (λj v gs gs' W hg h=>⟨h.1,zEX.loc j h.1 v gs gs' W hg h.2⟩)) ?_ ?_
   ·intro q oo hq ho vs gs W Q' hR0 hd hK
    have hR:Keeps zA w7 W:=((yB zA w7).drew).zC hR0;have hRr:Hid (Keeps zA wr W):=K7.out.zC hR;obtain⟨y10,y11,y12,y13⟩:=((R2.out.keeps HK.out (λh=>h)).keeps hRr.out (λh=>h)).four;obtain⟨y0,y1,y2,y3,y4,y5,y6,y7,y8,y9⟩:=(R7.out.keeps hR (λh=>h)).ten;clear hR0;have HB7:Hid (w7.heap.size<=W.heap.size):=hR.size;clear hR;rcases (show q=0\/q=1\/q=2\/q=3\/q=4\/q=5\/q=6\/q=7\/q=8\/q=9\/q=10\/q=11\/q=12\/q=13\/q=14\/q=15\/q=16\/q=17 by omega) with rfl|rfl|rfl|rfl|rfl|rfl|rfl|rfl|rfl|rfl|rfl|rfl|rfl|rfl|rfl|rfl|rfl|rfl
    all_goals (simp only[yC,yD,yN] at ho;subst ho;simp only[zJ,yC,yD,yO,Option.bind,Act.put,yE,yM,yJ] at hK ⊢;clear hq)
    ·exact J2 _
    ·exact J132 _
    ·exact J2 _
    ·exact J135 _
    ·exact J2 _
    ·exact J2 _
    ·exact J151 _
    ·have e4:vs 4=_:=hd 4 (by kernel_rfl)
     have e6:vs 6=_:=hd 6 (by kernel_rfl);rw[e4,e6] at hK ⊢;clear hd;go_wp2_with (go_at_call 143;refine((HX.out W hRr.out).mono ?_);rintro e W1 ⟨ad2,cp2,rfl,s1,g1⟩)
     exact J119 _
    ·exact J2 _
    ·exact J2 _
    ·exact J143 _
    ·have e8:vs 8=_:=hd 8 (by kernel_rfl)
     have e10:vs 10=_:=hd 10 (by kernel_rfl);rw[e8,e10] at hK ⊢;clear hd;go_wp2_with (go_at_call 88;refine((HT.out W hRr.out).mono ?_);rintro e W1 ⟨ad2,cp2,rfl,s1,g1⟩)
     exact J119 _
    ·exact J2 _
    ·exact J2 _
    ·have e13:vs 13=_:=hd 13 (by kernel_rfl)
     rw[e13] at hK ⊢;exact J2 _
    ·have e12:vs 12=_:=hd 12 (by kernel_rfl)
     have e14:vs 14=_:=hd 14 (by kernel_rfl);rw[e12,e14] at hK ⊢;clear hd;go_wp2_with (go_at_call 88;refine((HE.out W hRr.out).mono ?_);rintro e W1 ⟨ad2,cp2,rfl,s1,g1⟩)
     exact J119 _
    ·have e1:vs 1=_:=hd 1 (by kernel_rfl)
     have e3:vs 3=_:=hd 3 (by kernel_rfl);obtain⟨_,xa2,xc2,e7,h7⟩:=(hd 7 (by kernel_rfl):_/\∃ad2 cp2,vs 7=.agg #[y.kind,y.num,y.nm,.slice ad2 y.args.length cp2]/\zR W (In (gs 7)) y.args ad2/\w7.heap.size<=(gs 7).1);have H7:=yA h7;obtain⟨_,ta2,tc2,e11,h11⟩:=(hd 11 (by kernel_rfl):_/\∃ad2 cp2,vs 11=.slice ad2 pt.length cp2/\zx W (In (gs 11)) pt ad2/\w7.heap.size<=(gs 11).1);have H11:=yA h11;obtain⟨_,ea2,ec2,e15,h15⟩:=(hd 15 (by kernel_rfl):_/\∃ad2 cp2,vs 15=.slice ad2 pe.length cp2/\zx W (In (gs 15)) pe ad2/\w7.heap.size<=(gs 15).1);have H15:=yA h15;rw[e1,e3,e7,e11,e15] at hK ⊢;clear h7 h11 h15;clear hd;go_wp2_with fail
     exact hK _ _ (yB _ _) ⟨by simp,xa2,xc2,ta2,tc2,ea2,ec2,rfl,H7.out,H11.out,H15.out⟩
    ·exact J89 _
   ·intro vs gs W hR0 hF hGS hGD
    have hR:Keeps zA w7 W:=((yB zA w7).drew).zC hR0;have HRW:=yA hR;have HKW:Hid (Keeps zA wr W):=K7.out.zC hR;obtain⟨_,xa2,xc2,ta2,tc2,ea2,ec2,e16,hs7,hs11,hs15⟩:=(hF 16 (by decide):_/\∃xa2 xc2 ta2 tc2 ea2 ec2,vs 16=.agg #[x0,.string { data:=#[] },.string { data:=#[] },y.kind,y.num,y.nm,.slice xa2 y.args.length xc2,x7,.slice ta2 pt.length tc2,.slice ea2 pe.length ec2]/\(zR W (In (gs 7)) y.args xa2/\w7.heap.size<=(gs 7).1)/\(zx W (In (gs 11)) pt ta2/\w7.heap.size<=(gs 11).1)/\zx W (In (gs 15)) pe ea2/\w7.heap.size<=(gs 15).1);obtain⟨_,b8,e17,q1,q2,q3,hz8⟩:=(hF 17 (by decide):_/\∃b,vs 17=.pointer (some ⟨b,0,none⟩)/\b=(gs 17).1/\b<(gs 17).2/\w7.heap.size<=(gs 17).1/\zB W b zAo);obtain⟨TP,hTP⟩:=eX (α:=Nat->Prop) (λk=>w7.heap.size<=k/\k<W.heap.size/\k≠b8);have g7:=hGD 7 17 (by decide) (by decide) (by decide);have g11:=hGD 11 17 (by decide) (by decide) (by decide);have g15:=hGD 15 17 (by decide) (by decide) (by decide);have l7:=hGS 7 (by decide);have l11:=hGS 11 (by decide);have l15:=hGS 15 (by decide);have l17:=hGS 17 (by decide);have HX7:Hid (zR W TP y.args xa2):=hs7.1.mono (λk hk=>by exact J175 _);have HX11:Hid (zx W TP pt ta2):=hs11.1.mono (λk hk=>by exact J175 _);have HX15:Hid (zx W TP pe ea2):=hs15.1.mono (λk hk=>by exact J175 _);have HTP:=yA hTP;have HB8:Hid (w7.heap.size<=b8/\b8<W.heap.size):=⟨by omega,by omega⟩;have hzr:=yA hz8;simp only[zJ,yC,yD,yO,Option.bind,Act.put,yE,yM,yJ,yZ,yU];rw[e16,e17];clear hF e16 e17;generalize vs 0=y0;generalize vs 1=y1;generalize vs 2=y2;generalize vs 3=y3;generalize vs 4=y4;generalize vs 5=y5;generalize vs 6=y6;generalize vs 7=y7;generalize vs 8=y8;generalize vs 9=y9;generalize vs 10=y10;generalize vs 11=y11;generalize vs 12=y12;generalize vs 13=y13;generalize vs 14=y14;generalize vs 15=y15;clear hR hR0 hs7 hs11 hs15 HX HT HE hGS hGD q1 q2 q3 g7 g11 g15 l7 l11 l15 l17 hTP
    obtain⟨z0,z1,z2,z3,z4,z5,z6,z7,z8,z9⟩:=zB.ten hz8;have f0:=hz8.free (k:=0) (by simp[zAo]);have f1:=hz8.free (k:=1) (by simp[zAo]);have f2:=hz8.free (k:=2) (by simp[zAo]);have f3:=hz8.free (k:=3) (by simp[zAo]);have f4:=hz8.free (k:=4) (by simp[zAo]);have f5:=hz8.free (k:=5) (by simp[zAo]);have f6:=hz8.free (k:=6) (by simp[zAo]);have f7:=hz8.free (k:=7) (by simp[zAo]);have f8:=hz8.free (k:=8) (by simp[zAo]);have f9:=hz8.free (k:=9) (by simp[zAo]);clear hz8;go_upto_block 2 with fail
    have hr8:zB ((((((((((W.setCell ⟨b8,0,none⟩ (.int .i64 x0)).setCell ⟨b8,1,none⟩ (.string { data:=#[] })).setCell ⟨b8,2,none⟩ (.string { data:=#[] })).setCell ⟨b8,3,none⟩ (.int .i64 y.kind)).setCell ⟨b8,4,none⟩ (.int .i64 y.num)).setCell ⟨b8,5,none⟩ (.string y.nm)).setCell ⟨b8,6,none⟩ (.slice xa2 y.args.length xc2)).setCell ⟨b8,7,none⟩ (.int .i64 x7)).setCell ⟨b8,8,none⟩ (.slice ta2 pt.length tc2)).setCell ⟨b8,9,none⟩ (.slice ea2 pe.length ec2)) b8 [.int .i64 x0,.string { data:=#[] },.string { data:=#[] },.int .i64 y.kind,.int .i64 y.num,.string y.nm,.slice xa2 y.args.length xc2,.int .i64 x7,.slice ta2 pt.length tc2,.slice ea2 pe.length ec2]:=((((((((((hzr.out.set 0 (by simp[zAo]) _).set 1 (by simp[zAo]) _).set 2 (by simp[zAo]) _).set 3 (by simp[zAo]) _).set 4 (by simp[zAo]) _).set 5 (by simp[zAo]) _).set 6 (by simp[zAo]) _).set 7 (by simp[zAo]) _).set 8 (by simp[zAo]) _).set 9 (by simp[zAo]) _);have hk8:Keeps (λq=>q=b8) W ((((((((((W.setCell ⟨b8,0,none⟩ (.int .i64 x0)).setCell ⟨b8,1,none⟩ (.string { data:=#[] })).setCell ⟨b8,2,none⟩ (.string { data:=#[] })).setCell ⟨b8,3,none⟩ (.int .i64 y.kind)).setCell ⟨b8,4,none⟩ (.int .i64 y.num)).setCell ⟨b8,5,none⟩ (.string y.nm)).setCell ⟨b8,6,none⟩ (.slice xa2 y.args.length xc2)).setCell ⟨b8,7,none⟩ (.int .i64 x7)).setCell ⟨b8,8,none⟩ (.slice ta2 pt.length tc2)).setCell ⟨b8,9,none⟩ (.slice ea2 pe.length ec2)):=((((((((((yB (λq=>q=b8) W).setCell (p:=⟨b8,0,none⟩) (λ_=>rfl) _).setCell (p:=⟨b8,1,none⟩) (λ_=>rfl) _).setCell (p:=⟨b8,2,none⟩) (λ_=>rfl) _).setCell (p:=⟨b8,3,none⟩) (λ_=>rfl) _).setCell (p:=⟨b8,4,none⟩) (λ_=>rfl) _).setCell (p:=⟨b8,5,none⟩) (λ_=>rfl) _).setCell (p:=⟨b8,6,none⟩) (λ_=>rfl) _).setCell (p:=⟨b8,7,none⟩) (λ_=>rfl) _).setCell (p:=⟨b8,8,none⟩) (λ_=>rfl) _).setCell (p:=⟨b8,9,none⟩) (λ_=>rfl) _;generalize (((((((((W.setCell ⟨b8,0,none⟩ (.int .i64 x0)).setCell ⟨b8,1,none⟩ (.string { data:=#[] })).setCell ⟨b8,2,none⟩ (.string { data:=#[] })).setCell ⟨b8,3,none⟩ (.int .i64 y.kind)).setCell ⟨b8,4,none⟩ (.int .i64 y.num)).setCell ⟨b8,5,none⟩ (.string y.nm)).setCell ⟨b8,6,none⟩ (.slice xa2 y.args.length xc2)).setCell ⟨b8,7,none⟩ (.int .i64 x7)).setCell ⟨b8,8,none⟩ (.slice ta2 pt.length tc2)).setCell ⟨b8,9,none⟩ (.slice ea2 pe.length ec2)=wS at hr8 hk8 ⊢
    have R8:=yA hr8;have K8:=yA hk8;clear hr8 hk8 z0 z1 z2 z3 z4 z5 z6 z7 z8 z9 f0 f1 f2 f3 f4 f5 f6 f7 f8 f9 hzr;have hn8:∀k,k<w7.heap.size->¬(λq=>q=b8) k:=λk hk e=>by have e':k=b8:=e;have:=HB8.out.1;omega
    have R7S:Hid (zB wS b7 [x0,x1,x2,x3,x4,x5,.slice xa x6 xc,x7,.slice ta x8 tc,.slice ea x9 ec]):=(R7.out.keeps HRW.out (λh=>h)).keeps K8.out (hn8 b7 S7.out);have hw17:w1.heap.size<=w7.heap.size:=yX HK.out.size K7.out.size;have R2S:Hid (zB wS b2 [.slice a0 n0 c0,.slice a1 n1 c1,.slice a2 n2 c2,.slice a3 n3 c3]):=((R2.out.keeps HK.out (λh=>h)).keeps HKW.out (λh=>h)).keeps K8.out (hn8 b2 (yH (R2.out.lt (by simp)) hw17));have hN8:∀k,N k->¬(λq=>q=b8) k:=λk hk=>hn8 k (yH (HNs.out k hk) (yX K1.out.size hw17))
    have NW:=HNW.out W HKW.out;have NS0:Hid (zk wS N (.slice a0 n0 c0) n0):=NW.1.keeps K8.out hN8;have NS1:Hid (zk wS N (.slice a1 n1 c1) n1):=NW.2.1.keeps K8.out hN8;have NS2:Hid (zk wS N (.slice a2 n2 c2) n2):=NW.2.2.1.keeps K8.out hN8;have NS3:Hid (zk wS N (.slice a3 n3 c3) n3):=NW.2.2.2.keeps K8.out hN8;have hT8:∀k,TP k->¬(λq=>q=b8) k:=λk hk e=>by rw[HTP.out] at hk;exact hk.2.2 e
    have XS7:Hid (zR wS TP y.args xa2):=HX7.out.keeps K8.out hT8;have XS11:Hid (zx wS TP pt ta2):=HX11.out.keeps K8.out hT8;have XS15:Hid (zx wS TP pe ea2):=HX15.out.keeps K8.out hT8;have HT8:=yA hT8;have HA0:Hid (∀W',Keeps (λq=>q=b8) wS W'->Calls Tryz.prog 145 #[.slice a0 n0 c0,x2] W' λe w'=>e=.returned (.string (nameAt n0 x2))/\Keeps zA W' w'):=λW' hk=>zGM _ n0 x2 W' (NS0.out.keeps hk hN8)
    have HA1:Hid (∀W',Keeps (λq=>q=b8) wS W'->Calls Tryz.prog 145 #[.slice a1 n1 c1,x2] W' λe w'=>e=.returned (.string (nameAt n1 x2))/\Keeps zA W' w'):=λW' hk=>zGM _ n1 x2 W' (NS1.out.keeps hk hN8)
    have HA2:Hid (∀W',Keeps (λq=>q=b8) wS W'->Calls Tryz.prog 145 #[.slice a2 n2 c2,x2] W' λe w'=>e=.returned (.string (nameAt n2 x2))/\Keeps zA W' w'):=λW' hk=>zGM _ n2 x2 W' (NS2.out.keeps hk hN8)
    have HA3:Hid (∀W',Keeps (λq=>q=b8) wS W'->Calls Tryz.prog 145 #[.slice a3 n3 c3,x1] W' λe w'=>e=.returned (.string (nameAt n3 x1))/\Keeps zA W' w'):=λW' hk=>zGM _ n3 x1 W' (NS3.out.keeps hk hN8)
    obtain⟨hb,hhb⟩:=eX (zCg x0);obtain⟨nb,hnb⟩:=eX (zB3 x0);have HR:Hid (∀W',Calls Tryz.prog 144 #[x0] W' λe w'=>e=.returned hb/\Keeps zA W' w'):=by rw[hhb];exact λW'=>zJt x0 W'
    have HND:Hid (∀W',Calls Tryz.prog 146 #[x0] W' λe w'=>e=.returned nb/\Keeps zA W' w'):=by rw[hnb];exact λW'=>zLb x0 W'
    have HHB:Hid (hb=zCg x0/\nb=zB3 x0):=⟨hhb,hnb⟩;have nbc:nb=0\/nb=1\/nb=2\/nb=3:=by rcases zDg u x0 with h|h|h|h <;> (rw[hnb,h.1];omega)
    obtain⟨k1,hk1⟩:=eX ((if hb=false/\¬x1=0 then 0 else x0));obtain⟨r1,hr1⟩:=eX ((if hb=true then nameAt n3 x1 else zw));obtain⟨k2,hk2⟩:=eX ((if nb=0/\¬x2=0 then 0 else k1));obtain⟨nm2,hnm2⟩:=eX ((if nb=1 then nameAt n0 x2 else if nb=2 then nameAt n1 x2 else if nb=3 then nameAt n2 x2 else zw))
    have HFIN:Hid (l[i].named u n3=.mk k2 r1 nm2 y x7 pt pe):=by
     show _=_
     obtain⟨a1,a2,a3⟩:=zIz u n0 n1 n2 n3 HEN.out.1 HEN.out.2.1 HEN.out.2.2 x0 x1 x2;rw[HP.out,<-a1,<-a2,<-a3,hk2,hk1,hr1,hnm2,hnb,hhb]
    clear HP hhb hnb R7 HX7 HX11 HX15 NW hN8 hT8 hn8;go_cut [] from 12 to 81 (λwx=>Hid (Keeps (λq=>q=b8) wS wx)/\Hid (zB wx b8 [k1,r1,.string { data:=#[] },y.kind,y.num,y.nm,.slice xa2 y.args.length xc2,x7,.slice ta2 pt.length tc2,.slice ea2 pe.length ec2]))
    case first =>
     obtain⟨c0',c1',c2',c3',c4',c5',c6',c7',c8',c9'⟩:=R7S.out.ten;go_upto_if 32 with(go_at_call 144;refine(HR.out _).mono ?_;rintro e wH ⟨rfl,gH⟩;have GH:=yA gH;clear gH)
     have KH:Hid (Keeps (λq=>q=b8) wS wH):=GH.out.mono (λ_ _ h=>False.elim h);have R8H:Hid (zB wH b8 [x0,.string { data:=#[] },.string { data:=#[] },y.kind,y.num,y.nm,.slice xa2 y.args.length xc2,x7,.slice ta2 pt.length tc2,.slice ea2 pe.length ec2]):=R8.out.keeps GH.out (λh=>h);obtain⟨h70,h71,h72,h73,h74,h75,h76,h77,h78,h79⟩:=(R7S.out.keeps GH.out (λh=>h)).ten;obtain⟨h20,h21,h22,h23⟩:=(R2S.out.keeps GH.out (λh=>h)).four;obtain⟨h80,h81,h82,h83,h84,h85,h86,h87,h88,h89⟩:=R8H.out.ten;have f80:=R8H.out.free (k:=0) (by simp);clear c0' c1' c2' c3' c4' c5' c6' c7' c8' c9';cases hb
     ·rcases uL (x1=0) with hx1|hx1
      ·have q1:k1=x0:=by rw[hk1];simp[hx1]
       have q2:r1=zw:=by rw[hr1];simp
       have Q12:Hid (k1=x0/\r1=zw):=⟨q1,q2⟩;clear q1 q2 hk1 hr1 hk2;go_wp2_with fail
       go_meet
       case rel=>exact⟨KH,by show zB _ _ _;rw[Q12.out.1,Q12.out.2];exact R8H.out⟩
      ·have q1:k1=0:=by rw[hk1];simp[hx1]
       have q2:r1=zw:=by rw[hr1];simp
       have Q12:Hid (k1=0/\r1=zw):=⟨q1,q2⟩;have hx2:(x1==0)=false:=by simpa using hx1
       clear q1 q2 hk1 hr1 hk2;go_wp2_with fail
       go_meet
       case rel=>exact⟨KH.out.setCell (p:=⟨b8,0,none⟩) (λ_=>rfl) _,by show zB _ _ _;rw[Q12.out.1,Q12.out.2];exact R8H.out.set 0 (by simp) _⟩
     ·have q1:k1=x0:=by rw[hk1];simp
      have q2:r1=nameAt n3 x1:=by rw[hr1];simp
      have Q12:Hid (k1=x0/\r1=nameAt n3 x1):=⟨q1,q2⟩;clear q1 q2 hk1 hr1 hk2;go_wp2_with (go_at_call 145;refine(HA3.out _ KH.out).mono ?_;rintro e wI ⟨rfl,gI⟩;have rI:=R8H.out.keeps gI (λh=>h);have i81:=rI.cell (k:=1) (v:=.string { data:=#[] }) rfl;have fi1:=rI.free (k:=1) (by simp);have KI:=yA (KH.out.trans gI (λ_ _ h=>False.elim h));have RI:=yA rI;clear gI rI)
      go_meet
      case rel=>exact⟨KI.out.setCell (p:=⟨b8,1,none⟩) (λ_=>rfl) _,by show zB _ _ _;rw[Q12.out.1,Q12.out.2];exact RI.out.set 1 (by simp) _⟩
    case rest =>
     obtain⟨KC,RC⟩:=hcut;clear hk1 hr1;have hb8b7:¬(λq=>q=b8) b7:=λe=>by have e':b7=b8:=e;have:=S7.out;have:=HB8.out.1;omega
     have hb8b2:¬(λq=>q=b8) b2:=λe=>by have e':b2=b8:=e;have:=R2.out.lt (by simp);have:=HK.out.size;have:=K7.out.size;have:=HB8.out.1;omega
     obtain⟨c0',c1',c2',c3',c4',c5',c6',c7',c8',c9'⟩:=(R7S.out.keeps KC.out hb8b7).ten;go_upto_block 3 with(go_at_call 146;refine(HND.out _).mono ?_;rintro e wJ ⟨rfl,gJ⟩;have GJ:=yA gJ;clear gJ)
     have KJ:Hid (Keeps (λq=>q=b8) wS wJ):=KC.out.trans GJ.out (λ_ _ h=>False.elim h);have R8J:Hid (zB wJ b8 [k1,r1,.string { data:=#[] },y.kind,y.num,y.nm,.slice xa2 y.args.length xc2,x7,.slice ta2 pt.length tc2,.slice ea2 pe.length ec2]):=RC.out.keeps GJ.out (λh=>h);clear c0' c1' c2' c3' c4' c5' c6' c7' c8' c9';go_cut [] from 12 to 81 (λwx=>Hid (Keeps (λq=>q=b8) wS wx)/\Hid (zB wx b8 [k2,r1,nm2,y.kind,y.num,y.nm,.slice xa2 y.args.length xc2,x7,.slice ta2 pt.length tc2,.slice ea2 pe.length ec2]))
     case first =>
      obtain⟨h70,h71,h72,h73,h74,h75,h76,h77,h78,h79⟩:=(R7S.out.keeps KJ.out hb8b7).ten;obtain⟨h20,h21,h22,h23⟩:=(R2S.out.keeps KJ.out hb8b2).four;obtain⟨h80,h81,h82,h83,h84,h85,h86,h87,h88,h89⟩:=R8J.out.ten;have f80:=R8J.out.free (k:=0) (by simp);clear hb8b7 hb8b2;rcases nbc with rfl|rfl|rfl|rfl
      ·rcases uL (x2=0) with hx1|hx1
       ·have q1:k2=k1:=by rw[hk2];simp[hx1]
        have q2:nm2=zw:=by rw[hnm2];simp
        have Q12:Hid (k2=k1/\nm2=zw):=⟨q1,q2⟩;clear q1 q2 hk2 hnm2;go_wp2_with fail
        go_meet
        case rel=>exact⟨KJ,by show zB _ _ _;rw[Q12.out.1,Q12.out.2];exact R8J.out⟩
       ·have q1:k2=0:=by rw[hk2];simp[hx1]
        have q2:nm2=zw:=by rw[hnm2];simp
        have Q12:Hid (k2=0/\nm2=zw):=⟨q1,q2⟩;have hx2:(x2==0)=false:=by simpa using hx1
        clear q1 q2 hk2 hnm2;go_wp2_with fail
        go_meet
        case rel=>exact⟨KJ.out.setCell (p:=⟨b8,0,none⟩) (λ_=>rfl) _,by show zB _ _ _;rw[Q12.out.1,Q12.out.2];exact R8J.out.set 0 (by simp) _⟩
      ·have q1:k2=k1:=by rw[hk2];simp
       have q2:nm2=nameAt n0 x2:=by rw[hnm2];simp
       have Q12:Hid (k2=k1/\nm2=nameAt n0 x2):=⟨q1,q2⟩;clear q1 q2 hk2 hnm2;go_wp2_with (go_at_call 145;refine(HA0.out _ KJ.out).mono ?_;rintro e wI ⟨rfl,gI⟩;have rI:=R8J.out.keeps gI (λh=>h);have i82:=rI.cell (k:=2) (v:=.string { data:=#[] }) rfl;have fi2:=rI.free (k:=2) (by simp);have KI:=yA (KJ.out.trans gI (λ_ _ h=>False.elim h));have RI:=yA rI;clear gI rI)
       exact J49 _
      ·have q1:k2=k1:=by rw[hk2];simp
       have q2:nm2=nameAt n1 x2:=by rw[hnm2];simp
       have Q12:Hid (k2=k1/\nm2=nameAt n1 x2):=⟨q1,q2⟩;clear q1 q2 hk2 hnm2;go_wp2_with (go_at_call 145;refine(HA1.out _ KJ.out).mono ?_;rintro e wI ⟨rfl,gI⟩;have rI:=R8J.out.keeps gI (λh=>h);have i82:=rI.cell (k:=2) (v:=.string { data:=#[] }) rfl;have fi2:=rI.free (k:=2) (by simp);have KI:=yA (KJ.out.trans gI (λ_ _ h=>False.elim h));have RI:=yA rI;clear gI rI)
       exact J49 _
      ·have q1:k2=k1:=by rw[hk2];simp
       have q2:nm2=nameAt n2 x2:=by rw[hnm2];simp
       have Q12:Hid (k2=k1/\nm2=nameAt n2 x2):=⟨q1,q2⟩;clear q1 q2 hk2 hnm2;go_wp2_with (go_at_call 145;refine(HA2.out _ KJ.out).mono ?_;rintro e wI ⟨rfl,gI⟩;have rI:=R8J.out.keeps gI (λh=>h);have i82:=rI.cell (k:=2) (v:=.string { data:=#[] }) rfl;have fi2:=rI.free (k:=2) (by simp);have KI:=yA (KJ.out.trans gI (λ_ _ h=>False.elim h));have RI:=yA rI;clear gI rI)
       exact J49 _
     case rest =>
      obtain⟨KD,RD⟩:=hcut;clear hk2 hnm2;obtain⟨z0,z1,z2,z3,z4,z5,z6,z7,z8,z9⟩:=RD.out.ten;have KS:Hid (Keeps (λq=>q=b8) wr wc):=Keeps.trans (Keeps.trans (HKW.out.mono (S:=λq=>q=b8) (λ_ _ h=>False.elim h)) K8.out (λ_ _ h=>h)) KD.out (λ_ _ h=>h);have hb8r:wr.heap.size<=b8:=by have:=K7.out.size;have:=HB8.out.1;omega
      have HAD:Hid (Acc zCA (λ_=>False) B 10 191 wc (.slice da i dc) (Ac.zS u n3 (l.take i)) css):=HA.out.later zJo (λ_ h=>h.elim) KS.out (λk e=>by have e':k=b8:=e;omega);have HLEN:Hid ((Ac.zS u n3 (l.take i)).length=i):=by show _=_;rw[Ac.zBq,List.length_take];omega
      have HB8R:=yA hb8r;have i3:i+1<=1000000000:=by omega
      clear hb8r;go_upto_region 20 with(at_builtin;refine zI _ (by rfl) _ _ 108 (by rfl) 0 191 j0 _ 10 152 Tryz.underlying108 hj0 hz0 hz1 hz2 rfl (by decide) (.slice da i dc) i css.flatten (by rfl) (by have h1:=(HAD.out.zG zJo ((yB zA wc).alloc (.cells #[k2,r1,nm2,y.kind,y.num,y.nm,.slice xa2 y.args.length xc2,x7,.slice ta2 pt.length tc2,.slice ea2 pe.length ec2] 191))).2.1;rw[HLEN.out] at h1;exact h1) (.slice (some ⟨wc.heap.size,0,none⟩) 1 1) 1 [.int .i64 k2,.string r1,.string nm2,.int .i64 y.kind,.int .i64 y.num,.string y.nm,.slice xa2 y.args.length xc2,.int .i64 x7,.slice ta2 pt.length tc2,.slice ea2 pe.length ec2] (by rfl) (xE (yK (yG wc _))) rfl (J184 _) (by unfold maxLen;omega) (by omega) (yF _) ?_;intro da2 dc2 w4 ha;have HAO:=yA ha;clear ha)
      obtain⟨wA,hwA⟩:=eX (wc.alloc (.cells #[k2,r1,nm2,y.kind,y.num,y.nm,.slice xa2 y.args.length xc2,x7,.slice ta2 pt.length tc2,.slice ea2 pe.length ec2] 191));have KA:Keeps zA wc wA:=J191 _;have HAA:Acc zCA (λ_=>False) B 10 191 wA (.slice da i dc) (Ac.zS u n3 (l.take i)) css:=HAD.out.zG zJo KA;have HAO':zn wA 0 191 10 (.slice da i dc) (i+1) (css.flatten++[.int .i64 k2,.string r1,.string nm2,.int .i64 y.kind,.int .i64 y.num,.string y.nm,.slice xa2 y.args.length xc2,.int .i64 x7,.slice ta2 pt.length tc2,.slice ea2 pe.length ec2]) da2 dc2 w4:=by rw[hwA];exact HAO.out
      have hown:∀kb,(Value.slice da i dc).ownBlock=some kb->kb<wr.heap.size:=λkb e=>zM HA.out.2.1 e
      have hs1:=HK.out.size;have hs2:=K7.out.size;have hs3:=HBE.out;have hs4:W.heap.size<=wA.heap.size:=yX K8.out.size (yX KD.out.size KA.size)
      have hmono:∀k,TP k->zB1 (λ_=>False) B wA (.slice da i dc) k:=λk hk=>by
       rw[HTP.out] at hk;exact .inr ⟨by have:=hk.1;omega,by have:=hk.2.1;omega,λe=>by have:=hown k e;have:=hk.1;omega⟩
      have hel:zCA wA (zB1 (λ_=>False) B wA (.slice da i dc)) (l[i].named u n3) [.int .i64 k2,.string r1,.string nm2,.int .i64 y.kind,.int .i64 y.num,.string y.nm,.slice xa2 y.args.length xc2,.int .i64 x7,.slice ta2 pt.length tc2,.slice ea2 pe.length ec2]:=by
       rw[HFIN.out];exact zCA.zF1 (St.mk k2 r1 nm2 y x7 pt pe) (((XS7.out.keeps KD.out HT8.out).keeps KA (λ_ _ h=>h)).mono hmono) (((XS11.out.keeps KD.out HT8.out).keeps KA (λ_ _ h=>h)).mono hmono) (((XS15.out.keeps KD.out HT8.out).keeps KA (λ_ _ h=>h)).mono hmono)
      have hpush:Acc zCA (λ_=>False) B 10 191 w4 (.slice da2 (i+1) dc2) (Ac.zS u n3 (l.take (i+1))) (css++[[.int .i64 k2,.string r1,.string nm2,.int .i64 y.kind,.int .i64 y.num,.string y.nm,.slice xa2 y.args.length xc2,.int .i64 x7,.slice ta2 pt.length tc2,.slice ea2 pe.length ec2]]):=by
       have h1:=HAA.push zJo (λk hk=>hk.elim) (by have:=HRW.out.size;omega) hel (by decide) (ad:=da2) (cap:=dc2) (w':=w4) (by rw[HLEN.out];exact HAO');rw[HLEN.out] at h1;have e:Ac.zS u n3 (l.take (i+1))=Ac.zS u n3 (l.take i)++[l[i].named u n3]:=by rw[Ac.zAY,Ac.zAY,take_at hlt,List.map_append];rfl
       rw[e];exact h1
      have hkeep:Keeps zA w1 w4:=by
       have h1:Keeps zA w1 wc:=(HK.out.trans KS.out (λq hq e=>by have e':q=b8:=e;have:=HB8R.out;omega));exact HAO'.keeps (h1.zC KA) (λk e hk=>by have:=HA.out.2.2.1 k e;omega)
      have HPU:=yA hpush;have HKE:=yA hkeep;clear hpush hkeep hel hmono hs1 hs2 hs3 hs4 hown HAO' HAA KA hwA z0 z1 z2 z3 z4 z5 z6 z7 z8 z9;go_wp2_with fail
      go_roundw
      case rel=>exact⟨i+1,da2,dc2,css++[[.int .i64 k2,.string r1,.string nm2,.int .i64 y.kind,.int .i64 y.num,.string y.nm,.slice xa2 y.args.length xc2,.int .i64 x7,.slice ta2 pt.length tc2,.slice ea2 pe.length ec2]],by omega,by go_num,rfl,HPU,HKE⟩
      case measure=>simp[intOf];omega
  ·obtain rfl:i=l.length:=by omega
   go_wp2_with fail
   go_ret
   have hA:=HA.out;rw[xS] at hA;obtain⟨h1,h2⟩:=hA.elems zJo (ad:=da) (n:=l.length) (cap:=dc) rfl;have h3:zx wr (λk=>False\/(B<=k/\k<wr.heap.size)) (Ac.zS u n3 l) da:=⟨_,h1,h2⟩;exact⟨da,dc,rfl,h3.mono (λk hk=>by rcases hk with hk|hk;exact hk.elim;exact⟨by have:=HBE.out;omega,hk.2⟩),K1.out.zC HK.out⟩
theorem zSD(l:List Ac):zJV l:=by
 have key:∀x:Ac,zJV x.thn/\zJV x.els:=λx=>Ac.ind (P:=λx=>zJV x.thn/\zJV x.els) (λk r o x c t e h1 h2=>⟨zHx t h1,zHx e h2⟩) x
 exact zHx l (λy _=>key y)
