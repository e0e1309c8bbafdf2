/- Layer D: texts joined. -/
import Derived.Test.YtoapgjjepiopbaaGreatDoorD40
set_option linter.all false
set_option maxHeartbeats 8000000
set_option maxRecDepth 8000
namespace Go.Proofs.YtoapgjjepiopbaaGreatDoor
open Go.RowKit
theorem J34(P:Prop) (h:P:=by
 clear hd;have hz:=HRW.size;go_wp2_with fail
 exact hK _ _ ((yB _ _).alloc _) ⟨_,rfl,hz,yK (yG _ _)⟩):P:=h
theorem J46(P:Prop) (h:P:=by
 clear hd;go_wp2_with fail
 exact hK _ _ ((yB zA W).alloc _) ⟨_,rfl,yK (yG W _)⟩):P:=h
theorem zAL.weak{M:World->Nat->Value->Int->Nat->Prop}{w w':World}{b:Nat}{v:Value}{rg:Int}{n m m':Nat}{r:Value}{e:Ending}(h:zAL M w b v rg n m r e w')(hm:m<=m'):zAL M w b v rg n m' r e w':=by
 obtain⟨v',n',h1,h2,h3,h4⟩:=h;exact⟨v',n',h1,h2,by omega,h4⟩
theorem zRS{f:Fl}{reg regs obj most count:Int}{m z:Bool}{nt ne:Nat}(hb:acB f reg regs obj most count m z nt ne=true):(f.ex=true->m=true)/\(f.ex=false->z=true):=by
 unfold acB at hb;simp only[yS] at hb;obtain⟨⟨⟨⟨⟨_,_⟩,h⟩,_⟩,_⟩,_⟩:=hb;constructor <;> (intro e;rw[e] at h;simpa using h)
theorem Ex.zCi{x:Ex}(h:x.none=true):x.kind=0:=by
 cases x;simp only[Ex.none,yS,beq_iff_eq] at h;exact h.1.1.1
theorem Ex.zBU{x:Ex}{regs:Int}(h:x.may regs=true):x.kind≠0:=by
 rcases zDV (Ex.zDA h).1 with⟨h,_⟩|⟨h,_⟩|⟨h,_⟩|⟨h,_⟩ <;> omega
theorem Ex.zJ3{x:Ex}(h:x.kind≠0):x.there=true:=by
 cases x;have h':¬(_:Int)=0:=h;simp only[Ex.kind] at h';simp[Ex.there,h']
theorem Ac.zLo{l:List Ac}{i:Nat}(h:i<l.length):Ac.zT (l.take (i+1))=Ac.zT (l.take i)+l[i].cnt:=by
 induction l generalizing i with
 | nil=>exact absurd h (Nat.not_lt_zero _)
 | cons x r ih =>
   cases i with
   | zero=>simp[Ac.zT]
   | succ i =>
     have:=ih (i:=i) (by simpa using h)
     simp only[vO,Ac.zT,this,List.getElem_cons_succ];omega
theorem Ac.zH1(l:List Ac)(i:Nat):Ac.zT (l.take i)<=Ac.zT l:=by
 induction l generalizing i with
 | nil=>simp
 | cons x r ih =>
   cases i with
   | zero=>simp[Ac.zT]
   | succ i=>have:=ih i;simp only[vO,Ac.zT];omega
def zJ0(x:Ac):Prop:=∀(u:Un)(regs:Int)(b:Nat)(rg:Int)(F:Nat->Prop)(w:World)(v:Value)(n:Nat)(d:Int)(xa:Option Addr)(xc:Nat)(ta:Option Addr)(tc:Nat)(ea:Option Addr)(ec:Nat),
 zO w b v rg n->zR w F x.ex.args xa->zAl w F x.thn ta->zAl w F x.els ea->zC9 w b v F->x.may u regs=true->n+2*x.cnt<1000000 →
 Calls Tryz.prog 109 #[.pointer (some ⟨b,0,none⟩),acV x xa xc ta tc ea ec,d] w (zAL zO w b v rg n (2*x.cnt) (.tuple #[]))
def zF9(l:List Ac):Prop:=∀(u:Un)(regs:Int)(b:Nat)(rg:Int)(F:Nat->Prop)(w:World)(v:Value)(n:Nat)(d:Int)(ad:Option Addr)(cap:Nat),
 zO w b v rg n->zAl w F l ad->zC9 w b v F->Ac.zAC u regs l=true->n+2*Ac.zT l<1000000 →
 Calls Tryz.prog 70 #[.pointer (some ⟨b,0,none⟩),.slice ad l.length cap,d] w (zAL zO w b v rg n (2*Ac.zT l) (.tuple #[]))
theorem zLx(x:Ac)(ht:zF9 x.thn)(he:zF9 x.els):zJ0 x:=by
 intro u regs b rg F w v n d xa xc ta tc ea ec h hx h1 h2 hF hm hn
 have hc:=Ac.zEM x
 obtain⟨hl,hmt,hme⟩:zBH u regs x.kind x.reg x.obj x.ex x.count x.thn.length x.els.length=true/\Ac.zAC u regs x.thn=true/\Ac.zAC u regs x.els=true:=by
  cases x;simp only[Ac.may,yS,and_assoc] at hm;exact hm
 rw[zGH] at hl;simp only[yS,yV] at hl;obtain⟨⟨k1,k2⟩,hb⟩:=hl;obtain⟨b1,b2⟩:=zRS hb
 have HX:x.ex.may regs=true->Hid (∀W v' n' k,zO W b v' rg n'->zV w b v W v'->n'+x.ex.cnt<1000000->Calls Tryz.prog 161 #[.pointer (some ⟨b,0,none⟩),.int .i64 k,.agg #[x.ex.kind,x.ex.num,x.ex.nm,.slice xa x.ex.args.length xc]] W (zAL zO W b v' rg n' x.ex.cnt (.tuple #[]))):=
  λhmx W v' n' k a1 a2 a3=>zMh b rg regs F x.ex W v' n' k xa xc a1 (hx.keeps a2.keeps (λq hq=>(hF q hq).2)) (hF.run a2) hmx a3
 have HT:Hid (∀W v' n' d,zO W b v' rg n'->zV w b v W v'->n'+2*Ac.zT x.thn<1000000->Calls Tryz.prog 70 #[.pointer (some ⟨b,0,none⟩),.slice ta x.thn.length tc,.int .i64 d] W (zAL zO W b v' rg n' (2*Ac.zT x.thn) (.tuple #[]))):=
  λW v' n' d a1 a2 a3=>ht u regs b rg F W v' n' d ta tc a1 (h1.keeps a2.keeps (λq hq=>(hF q hq).2)) (hF.run a2) hmt a3
 have HE:Hid (∀W v' n' d,zO W b v' rg n'->zV w b v W v'->n'+2*Ac.zT x.els<1000000->Calls Tryz.prog 70 #[.pointer (some ⟨b,0,none⟩),.slice ea x.els.length ec,.int .i64 d] W (zAL zO W b v' rg n' (2*Ac.zT x.els) (.tuple #[]))):=
  λW v' n' d a1 a2 a3=>he u regs b rg F W v' n' d ea ec a1 (h2.keeps a2.keeps (λq hq=>(hF q hq).2)) (hF.run a2) hme a3
 have hle:=Ac.zIf x.els;have hEx:∀hmx:x.ex.may regs=true,x.cnt=1+x.ex.cnt+Ac.zT x.thn+Ac.zT x.els:=λhmx=>by rw[hc,if_pos (Ex.zJ3 (Ex.zBU hmx))]
 unfold acV;obtain⟨k,ek⟩:=eX x.kind;rw[<-ek] at b1 b2 k1 k2 ⊢;rcases (show k=1\/k=2\/k=3\/k=4\/k=5\/k=6\/k=7\/k=8\/k=9\/k=10\/k=11 by omega) with h0|h0|h0|h0|h0|h0|h0|h0|h0|h0|h0
 all_goals (clear ek;subst h0)
 ·have hmx:=b1 (by decide)
  have hce:=hEx hmx;exact(zQd h d x.reg x.obj x.ex.kind x.ex.num x.count x.ex.nm xa ta ea x.ex.args.length xc x.thn.length tc x.els.length ec _ (Ex.zBU hmx) (HX hmx) (by omega)).mono (λe w' h=>h.weak (by omega))
 ·have hz:=Ex.zCi (b2 (by decide))
  exact(zQ3 h d x.reg x.obj x.ex.kind x.ex.num x.count x.ex.nm xa ta ea x.ex.args.length xc x.thn.length tc x.els.length ec hz (by omega)).mono (λe w' h=>h.weak (by omega))
 ·have hmx:=b1 (by decide)
  have hce:=hEx hmx;exact(zQn h d x.reg x.obj x.ex.kind x.ex.num x.count x.ex.nm xa ta ea x.ex.args.length xc x.thn.length tc x.els.length ec _ (Ex.zBU hmx) (HX hmx) (by omega)).mono (λe w' h=>h.weak (by omega))
 ·have hmx:=b1 (by decide)
  have hce:=hEx hmx;exact(zQi h d x.reg x.obj x.ex.kind x.ex.num x.count x.ex.nm xa ta ea x.ex.args.length xc x.thn.length tc x.els.length ec _ (Ex.zBU hmx) (HX hmx) (by omega)).mono (λe w' h=>h.weak (by omega))
 ·have hz:=Ex.zCi (b2 (by decide))
  exact(zQP h d x.reg x.obj x.ex.kind x.ex.num x.count x.ex.nm xa ta ea x.ex.args.length xc x.thn.length tc x.els.length ec hz (by omega)).mono (λe w' h=>h.weak (by omega))
 ·have hz:=Ex.zCi (b2 (by decide))
  exact(zP2 h d x.reg x.obj x.ex.kind x.ex.num x.count x.ex.nm xa ta ea x.ex.args.length xc x.thn.length tc x.els.length ec hz (by omega)).mono (λe w' h=>h.weak (by omega))
 ·have hz:=Ex.zCi (b2 (by decide))
  exact(zP0 h d x.reg x.obj x.ex.kind x.ex.num x.count x.ex.nm xa ta ea x.ex.args.length xc x.thn.length tc x.els.length ec hz (by omega)).mono (λe w' h=>h.weak (by omega))
 ·have hz:=Ex.zCi (b2 (by decide))
  exact(zQM h d x.reg x.obj x.ex.kind x.ex.num x.count x.ex.nm xa ta ea x.ex.args.length xc x.thn.length tc x.els.length ec hz (by omega)).mono (λe w' h=>h.weak (by omega))
 ·have hmx:=b1 (by decide)
  have hce:=hEx hmx;exact(zQr h d x.reg x.obj x.ex.kind x.ex.num x.count x.ex.nm xa ta ea x.ex.args.length xc x.thn.length tc x.els.length ec _ (Ex.zBU hmx) (HX hmx) (by omega)).mono (λe w' h=>h.weak (by omega))
 ·have hmx:=b1 (by decide)
  have hce:=hEx hmx
  have HB:Hid (∀W v' n' k,zO W b v' rg n'->zV w b v W v'->n'+(2*Ac.zT x.thn+2*Ac.zT x.els+2)<1000000->Calls Tryz.prog 162 #[.pointer (some ⟨b,0,none⟩),.agg #[(10:Int),x.reg,x.obj,x.ex.kind,x.ex.num,x.ex.nm,.slice xa x.ex.args.length xc,x.count,.slice ta x.thn.length tc,.slice ea x.els.length ec],d,.int .i64 k] W (zAL zO W b v' rg n' (2*Ac.zT x.thn+2*Ac.zT x.els+2) (.tuple #[]))):=
   λW v' n' k a1 a2 a3=>zOb a1 d k x.reg x.obj x.ex.kind x.ex.num x.count x.ex.nm xa ta ea x.ex.args.length xc x.thn.length tc x.els.length ec _ _ (λW2 v2 n2 d2 c1 c2 c3=>HT.out W2 v2 n2 d2 c1 (xP h.lt a2 c2) c3) (λW2 v2 n2 d2 c1 c2 c3=>HE.out W2 v2 n2 d2 c1 (xP h.lt a2 c2) c3) (by omega) a3
  exact(zPe h d x.reg x.obj x.ex.kind x.ex.num x.count x.ex.nm xa ta ea x.ex.args.length xc x.thn.length tc x.els.length ec _ (Ex.zBU hmx) (HX hmx) _ HB (by omega)).mono (λe w' h=>h.weak (by omega))
 ·have hz:=Ex.zCi (b2 (by decide))
  exact(zPA h d x.reg x.obj x.ex.kind x.ex.num x.count x.ex.nm xa ta ea x.ex.args.length xc x.thn.length tc x.els.length ec hz _ HT (by omega)).mono (λe w' h=>h.weak (by omega))
theorem zES(l:List Ac)(ih:∀y,y∈l->zJ0 y):zF9 l:=by
 intro u regs b rg F w v n d ad cap h hL hF hm hn
 have hlen:=Ac.zIf l;obtain⟨nl,hnl⟩:=eX l.length;rw[<-hnl];have HN:=yA hnl;have hnb:nl<1000000:=by omega
 have HL:=yA hL;have IH:=yA ih;have HF:=yA hF;have H:=yA h;have HM:=yA hm;have HB:=yA hn;clear h hL ih hF hm hnl hlen hn;go_enter Tryz.func70,Tryz.ntmps70
 go_wp2_with fail
 go_loopw [10] (λiv wr=>∃(i:Nat)(v':Value)(n':Nat),i<=nl/\iv=.int .i64 i/\Hid (zO wr b v' rg n'/\zV w b v wr v'/\n<=n'/\n'<=n+2*Ac.zT (l.take i))) (λiv _=>nl-(intOf iv).toNat)
 case atStart=>exact⟨0,v,n,yF _,rfl,H.out,vD,yT _,by omega⟩
 case round =>
  obtain⟨i,v1,n1,hi,rfl,HP⟩:=hrel;by_cases hlt:i<nl
  ·have i1:(0:Int)<=i:=by omega
   have i2:(i:Int)<nl:=by omega
   have hlt':i<l.length:=by have:=HN.out;omega
   have HL1:=HL.out.keeps HP.out.2.1.keeps (λq hq=>(HF.out q hq).2);obtain⟨g,o,xa,xc,ta,tc,ea,ec,e1,hg,d0,d1,d2,d3,d4,d5,d6,d7,d8,d9,hx,hxt,hxe⟩:=HL1.at hlt';subst e1;have hcT:=Ac.zLo hlt';have hcM:=Ac.zM4 (yI hlt')
   have HCL:Hid (∀W,Keeps zA wr W->Calls Tryz.prog 109 #[.pointer (some ⟨b,0,none⟩),.agg #[.int .i64 l[i].kind,.int .i64 l[i].reg,.int .i64 l[i].obj,.int .i64 l[i].ex.kind,.int .i64 l[i].ex.num,.string l[i].ex.nm,.slice xa l[i].ex.args.length xc,.int .i64 l[i].count,.slice ta l[i].thn.length tc,.slice ea l[i].els.length ec],d] W (zAL zO W b v1 rg n1 (2*l[i].cnt) (.tuple #[]))):=λW hk =>
    IH.out _ (yI hlt') u regs b rg F W v1 n1 d xa xc ta tc ea ec (HP.out.1.zG hk) (hx.keeps hk (λ_ _ h=>h)) (hxt.keeps hk (λ_ _ h=>h)) (hxe.keeps hk (λ_ _ h=>h)) ((HF.out.run HP.out.2.1).zG hk) (Ac.zE3 HM.out (yI hlt')) (by
     have h1:=HP.out.2.2.2;have h2:=HB.out;have h3:Ac.zT (l.take (i+1))<=Ac.zT l:=Ac.zH1 _ _;omega)
   have HCT:=yA hcT;clear hx hxt hxe HL1 hcM hcT;generalize l[i].cnt=m at HCL HCT;generalize l[i].kind=x0 at d0 HCL;generalize l[i].reg=x1 at d1 HCL;generalize l[i].obj=x2 at d2 HCL;generalize l[i].ex.kind=x3 at d3 HCL;generalize l[i].ex.num=x4 at d4 HCL;generalize l[i].ex.nm=x5 at d5 HCL;generalize l[i].ex.args.length=x6 at d6 HCL;generalize l[i].count=x7 at d7 HCL;generalize l[i].thn.length=x8 at d8 HCL;generalize l[i].els.length=x9 at d9 HCL;go_upto_region 3 with fail
   obtain⟨b7,w7,e1,e2,R7,K7,_⟩:=newRow wr [x0,x1,x2,x3,x4,x5,.slice xa x6 xc,x7,.slice ta x8 tc,.slice ea x9 ec] 146;try rw[e1]
   try rw[e2]
   have y:=R7.zq;have k7:=zF w7;have HK7:=yA K7;clear e1 e2 R7 K7 d0 d1 d2 d3 d4 d5 d6 d7 d8 d9;go_upto_region 4 with(go_at_call 109;refine(HCL.out _ HK7.out).mono ?_;rintro e w8 ⟨v2,n2,rfl,l2,u2,c2,r2⟩;have H2:Hid (zO w8 b v2 rg n2/\zV w b v w8 v2/\n1<=n2/\n2<=n1+2*m):=⟨c2,xP H.out.lt HP.out.2.1 (uE HK7.out r2),l2,u2⟩;clear c2 r2 y k7 l2 u2)
   go_wp2_with fail
   exact⟨⟨i+1,v2,n2,by omega,by go_num,H2.out.1,H2.out.2.1,by have:=HP.out.2.2.1;have:=H2.out.2.2.1;omega,by have:=HP.out.2.2.2;have:=H2.out.2.2.2;have:=HCT.out;omega⟩,by simp[intOf];omega⟩
  ·obtain rfl:i=nl:=by omega
   go_wp2_with fail
   go_returns
   exact⟨v1,n1,rfl,HP.out.2.2.1,by have h:=HP.out.2.2.2;rw[HN.out,xS] at h;exact h,HP.out.1,HP.out.2.1⟩
theorem zQe(x:Ac):zJ0 x:=Ac.ind (λk r o x c t e h1 h2=>zLx _ (zES t h1) (zES e h2)) x
theorem zPC(l:List Ac):zF9 l:=zES l (λy _=>zQe y)
theorem zKZ(w:World)(g n cap:Nat)(hn:n<=cap)(hm:cap<=maxLen):
 Calls Tryz.prog 72 #[.slice (some ⟨g,0,none⟩) n cap] w λe w'=>e=.returned (.slice (some ⟨g,0,none⟩) n n)/\w'=w:=by
 have h1:(0:Int)<=n:=by omega
 have h2:(n:Int)<=cap:=by omega
 have h3:(cap:Int)<=9223372036854775807:=by unfold maxLen at hm;omega
 go_enter Tryz.func72,Tryz.ntmps72
 go_wp2
 go_ret
 exact⟨by simp,rfl⟩
theorem zOF:(Tryz.prog.info? 161).map (λi=>(i.zero,i.size,i.bytes))=some (some (.agg #[(0:Int),.slice none 0 0]),2,32):=by kernel_rfl
def LwF(B nc:Nat)(cs:List Int)(mu:Int)(j:Nat)(v:Value)(W:World):Prop:=
 match j with
 | 2=>∃ad cap,v=.slice ad nc cap/\W.ownsRow 0 3 1 v nc (ints cs)
 | 3=>∃ad,v=.slice ad nc nc
 | 6=>∃ad,v=.agg #[.slice ad nc nc,mu,.slice none 0 0]
 | 7=>∃z,v=.pointer (some ⟨z,0,none⟩)/\B<=z/\zB W z [.slice none 0 0,(0:Int),.slice none 0 0]
 | _=>True
theorem LwF.st{B nc:Nat}{cs:List Int}{mu:Int}(j:Nat)(v:Value)(W W':World)(h:LwF B nc cs mu j v W)(hk:Keeps zA W W'):LwF B nc cs mu j v W':=by
 unfold LwF at *;split at h
 case h_1=>obtain⟨ad,cap,e,h1⟩:=h;exact⟨ad,cap,e,zD h1 hk (λ_ _ h=>h)⟩
 case h_4=>obtain⟨z,e,h1,h2⟩:=h;exact⟨z,e,h1,h2.keeps hk (λh=>h)⟩
 all_goals first|exact h|trivial
theorem zMP(b:Nat)(ad:Option Addr)(cap:Nat)(d:Int)(w:World):Calls Tryz.prog 70 #[.pointer (some ⟨b,0,none⟩),.slice ad 0 cap,d] w λe w'=>e=.returned (.tuple #[])/\Keeps zA w w':=by
 go_enter Tryz.func70,Tryz.ntmps70
 go_wp2_with fail
 go_loopw [10] (λiv wr=>iv=.int .i64 0/\wr=w) (λ_ _=>0)
 case atStart=>exact⟨rfl,rfl⟩
 case round =>
  obtain⟨rfl,hw⟩:=hrel;subst hw;go_wp2_with fail
  go_returns
  exact⟨rfl,yB _ _⟩
theorem zQD(l:List Ac)(u:Un)(regs:Int)(b:Nat)(rg:Int)(F:Nat->Prop)(w:World)(d:Int)(ad:Option Addr)(cap:Nat)(h:zB6 w b rg rg (.slice none 0 0) [])(hL:zAl w F l ad)(hF:zC9 w b (.slice none 0 0) F)(hm:Ac.zAC u regs l=true)(hn:2*Ac.zT l<999999):
 Calls Tryz.prog 70 #[.pointer (some ⟨b,0,none⟩),.slice ad l.length cap,d] w λe w'=>∃v' mo l',e=.returned (.tuple #[])/\l'.length<=2*Ac.zT l/\zB6 w' b rg mo v' l'/\zV w b (.slice none 0 0) w' v'/\(l=[]->mo=rg/\l'=[]):=by
 by_cases hl:l=[]
 ·subst hl
  refine(zMP b ad cap d w).mono ?_
  rintro e w' ⟨he,hk⟩
  exact⟨_,rg,[],he,yF _,h.keeps hk (λh=>h) (λ_ _ h=>h),zV.refl.post hk,λ_=>⟨rfl,rfl⟩⟩
 ·refine(zPC l u regs b rg F w _ 0 d ad cap ⟨rg,[],h,rfl⟩ hL hF hm (by omega)).mono ?_
  rintro e w' ⟨v',n',he,_,h2,⟨mo,l',hc,rfl⟩,hr⟩
  exact⟨v',mo,l',he,by omega,hc,hr,λe=>absurd e hl⟩
theorem zNt{cs:List Int}{mu:Int}{bs:List Bd}{w:World}{F:Nat->Prop}{uca uta:Option Addr}(ucc utc:Nat)(h:zC8 w F cs bs uca uta)(hr:zX ⟨cs,mu,bs⟩=true):
 Calls Tryz.prog 32 #[.agg #[.slice uca cs.length ucc,mu,.slice uta bs.length utc]] w λe w'=>∃ca ta tc,e=.returned (.tuple #[.agg #[.slice ca cs.length cs.length,mu,.slice ta bs.length tc],(0:Int)])/\Keeps zA w w'/\(∀rg,bs=[⟨rg,[]⟩]->∃gI,zl w' (.slice ta 1 tc) 1 [.int .i64 rg,.slice (some ⟨gI,0,none⟩) 1 1]/\zl w' (.slice (some ⟨gI,0,none⟩) 1 1) 1 [.int .i64 29,.int .i64 0,.int .i64 0,.int .i64 0]):=by
 have hri:=zBT hr;have h8:bs.length<=8:=hri.2.1;have hc8:cs.length<=8:=hri.2.2.1;have HA:Hid (∀i (hi:i<bs.length),Ac.zAC ⟨cs,mu,bs⟩ bs[i].regs bs[i].acts=true/\Ac.zT bs[i].acts<=500):=λi hi=>⟨(hri.2.2.2.2.2 _ (yI hi)).2.2.1,zKK hr (yI hi)⟩
 obtain⟨nc,hnc⟩:=eX cs.length;obtain⟨nb,hnb⟩:=eX bs.length;have HNC:=yA hnc;have HNB:=yA hnb
 have HRT:Hid (∀W,Keeps zA w W->Calls Tryz.prog 16 #[.agg #[.slice uca nc ucc,mu,.slice uta nb utc]] W λe w'=>e=.returned true/\Keeps zA W w'):=λW hk=>by
  have h0:=h.zG hk;have:=zCo cs mu bs W F uca uta ucc utc h0.nums h0.bds h0.low h0.kinds h0.sz h0.l1 h0.l2
  rw[hr] at this;rw[hnc,hnb];exact this
 have HCL:Hid (∀W,Keeps zA w W->Calls Tryz.prog 59 #[.slice uca nc ucc] W (zBb 3 1 W nc (ints cs))):=λW hk=>by
  rw[hnc];exact zBl W _ cs (zAw.src (h.nums.keeps hk (λ_ _ h=>h))) (by omega)
 have HU:=yA h;have h8':nb<=8:=by omega
 obtain⟨j0,hj0,hy0,hy1,hy2⟩:=info_parts zOF;rw[<-hnc,<-hnb];clear h hr hri h8 hc8 hnc hnb;go_enter Tryz.func32,Tryz.ntmps32
 go_upto_region 1 with fail
 obtain⟨b1,w1,e1,e2,R1,K1,S1⟩:=newRow w [.slice uca nc ucc,mu,.slice uta nb utc] 25;rw[e1,e2];obtain⟨b2,w2,e3,e4,R2,K2,_⟩:=newRow w1 [.slice none 0 0,(0:Int),.slice none 0 0] 78;rw[<-S1.out,e3,e4];have HB2:Hid (w.heap.size<=b2/\b1<b2):=⟨by rw[<-e3];exact K1.size,by rw[<-e3];exact R1.lt (by simp)⟩;have HR1:=yA (R1.keeps K2 (λh=>h));have HR2:=yA R2;have HK2:Hid (Keeps zA w w2):=K1.zC K2;have y:=HR1.out.zA7;have k2:=zF w2;clear e1 e2 e3 e4 R1 R2 K1 K2 S1;go_upto_region 3 with(go_at_call 16;refine(HRT.out _ HK2.out).mono ?_;rintro e w3 ⟨rfl,g3⟩;have HK3:=yA g3;clear g3 y k2)
 replace HCL:Hid (∀W,Keeps zA w3 W->Calls Tryz.prog 59 #[.slice uca nc ucc] W (zBb 3 1 W nc (ints cs))):=λW hk=>HCL.out W ((HK2.out.zC HK3.out).zC hk)
 have HR1':=yA (HR1.out.keeps HK3.out (λh=>h));have HR2':=yA (HR2.out.keeps HK3.out (λh=>h));have HK3':Hid (Keeps zA w w3):=HK2.out.zC HK3.out;have y:=HR1'.out.zA7;clear HR1 HR2 HK2 HK3;refine zBG 8 (by kernel_rfl) [some ((.pointer (some ⟨b1,0,none⟩))),some (.slice uca nc ucc),none,none,some ((.pointer (some ⟨b1,1,none⟩))),some (.int .i64 mu),none,none] rfl (LwF w3.heap.size nc cs mu) LwF.st ?_ ?_
 ·refine⟨?_,?_,?_,?_,?_,?_,?_,?_,trivial⟩ <;> (intro vs gs W Q' hR hd hK;have HRW:Keeps zA w3 W:=((zF w3).drew).zC hR;simp only[zBK,zAt,zBo,zJ,tz,Option.bind,Act.put] at hd hK ⊢;try simp only[hd] at hK ⊢)
  all_goals try(try clear hd;go_wp2_with (fail);first|exact hK _ _ (yB _ _) rfl)
  ·clear hd
   go_wp2_with (go_at_call 59;refine(HCL.out _ HRW).mono ?_;rintro e W1 ⟨ad,cap,rfl,g1,g2,g3⟩)
   exact hK _ _ g2 ⟨ad,cap,rfl,g1⟩
  ·obtain⟨ad,cap,e4,h1⟩:∃ad cap,vs 2=.slice ad nc cap/\W.ownsRow 0 3 1 (vs 2) nc (ints cs):=by simpa [LwF] using hd
   clear hd;rw[e4] at hK h1 ⊢;have HCN:Hid (∀W',W'=W->Calls Tryz.prog 69 #[.slice ad nc cap] W' λe w'=>e=.returned (.slice ad nc nc)/\w'=W'):=λW' h=>by subst h;exact zDJ _ ad _ cap cs (by rw[HNC.out] at h1 ⊢;exact h1)
   clear h1;go_wp2_with (go_at_call 69;refine(HCN.out _ rfl).mono ?_;rintro e W1 ⟨rfl,rfl⟩)
   exact hK _ _ (yB _ _) ⟨ad,rfl⟩
  ·obtain⟨ad,e4⟩:∃ad,vs 3=.slice ad nc nc:=by simpa [LwF] using hd.1
   clear hd;rw[e4] at hK ⊢;go_wp2_with fail
   exact hK _ _ (yB _ _) ⟨ad,rfl⟩
  ·exact J34 _
 ·intro vs W hR hFF
  have HRW:Keeps zA w3 W:=((zF w3).drew).zC hR;obtain⟨ad,e6⟩:=(hFF 6 (by decide):∃ad,vs 6=.agg #[.slice ad nc nc,mu,.slice none 0 0]);obtain⟨z,e7,hz,rz⟩:=(hFF 7 (by decide):∃z,vs 7=.pointer (some ⟨z,0,none⟩)/\w3.heap.size<=z/\zB W z [.slice none 0 0,(0:Int),.slice none 0 0]);simp only[zJ,tz,Option.bind,Act.put];rw[e6,e7];have HZ:Hid (w3.heap.size<=z/\b2<w3.heap.size):=⟨hz,HR2'.out.lt (by simp)⟩;have c0:=rz.cell (k:=0) rfl;have c1:=rz.cell (k:=1) rfl;have c2:=rz.cell (k:=2) rfl;have f0:=rz.free (k:=0) (by simp);have f1:=rz.free (k:=1) (by simp);have f2:=rz.free (k:=2) (by simp);have HRZ:=yA rz;have HKW:=yA HRW;clear hFF e6 e7 hR HRW rz hz;go_upto_region 4 with fail
  have r4:=((HRZ.out.set 0 (by simp) (.slice ad nc nc)).set 1 (by simp) (.int .i64 mu)).set 2 (by simp) (.slice none 0 0);have k4:Keeps (λq=>q=z) W (((W.setCell ⟨z,0,none⟩ (.slice ad nc nc)).setCell ⟨z,1,none⟩ (.int .i64 mu)).setCell ⟨z,2,none⟩ (.slice none 0 0)):=(((yB (λq=>q=z) W).setCell (p:=⟨z,0,none⟩) (λ_=>rfl) _).setCell (p:=⟨z,1,none⟩) (λ_=>rfl) _).setCell (p:=⟨z,2,none⟩) (λ_=>rfl) _;have r4:zB (((W.setCell ⟨z,0,none⟩ (.slice ad nc nc)).setCell ⟨z,1,none⟩ (.int .i64 mu)).setCell ⟨z,2,none⟩ (.slice none 0 0)) z [.slice ad nc nc,.int .i64 mu,.slice none 0 0]:=r4;generalize ((W.setCell ⟨z,0,none⟩ (.slice ad nc nc)).setCell ⟨z,1,none⟩ (.int .i64 mu)).setCell ⟨z,2,none⟩ (.slice none 0 0)=w4 at r4 k4 ⊢;have HR4:=yA r4;have HK4:Hid (Keeps zA w3 w4):=HKW.out.trans k4 (λq hq e=>by have e':q=z:=e;have:=HZ.out.1;omega);have HK04:Hid (Keeps zA w w4):=HK3'.out.zC HK4.out;have HR24:=yA (HR2'.out.keeps HK4.out (λh=>h));have y:=(HR1'.out.keeps HK4.out (λh=>h)).zA7;have k5:=zF w4;clear r4 k4 c0 c1 c2 f0 f1 f2;go_wp2_with fail
  clear y k5;go_loopw [22] (λiv wr=>∃(i:Nat)(ta:Option Addr)(tc:Nat)(L:List Value),i<=nb/\iv=.int .i64 i/\Hid (zB wr z [.slice ad nc nc,mu,.slice ta i tc]/\wr.ownsRow 0 161 2 (.slice ta i tc) i L/\(∀q,(Value.slice ta i tc).ownBlock=some q->q≠z/\w4.heap.size<=q)/\zB wr b2 [.slice none 0 0,(0:Int),.slice none 0 0]/\Keeps zA w wr/\w4.heap.size<=wr.heap.size)/\Hid (i=1->∀rg,bs=[⟨rg,[]⟩]->∃gI,zl wr (.slice ta 1 tc) 1 [.int .i64 rg,.slice (some ⟨gI,0,none⟩) 1 1]/\zl wr (.slice (some ⟨gI,0,none⟩) 1 1) 1 [.int .i64 29,.int .i64 0,.int .i64 0,.int .i64 0]/\w4.heap.size<=gI)) (λiv _=>nb-(intOf iv).toNat)
  case atStart=>exact⟨0,none,0,[],yF _,rfl,⟨HR4.out,World.ownsRow_nil _ _ _ _,λq e=>by exact J170 _,HR24.out,HK04.out,yT _⟩,λh=>absurd h (by decide)⟩
  case round =>
   obtain⟨i,ta,tc,L,hi,rfl,HP,HX⟩:=hrel;by_cases hlt:i<nb
   ·have i1:(0:Int)<=i:=by omega
    have i2:(i:Int)<nb:=by omega
    have hlt':i<bs.length:=by have:=HNB.out;omega
    have HUR:=HU.out.zG HP.out.2.2.2.2.1;obtain⟨g,o,ba,bc,e1,hg,c0,c1,hxa⟩:=HUR.bds i hlt';subst e1;have hA:=HA.out i hlt';have HBI:Hid (∀rg,bs=[⟨rg,[]⟩]->bs[i].regs=rg/\bs[i].acts=[]):=λrg e=>by(cases e;have h0:i=0:=(by simpa using hlt');subst h0;exact⟨rfl,rfl⟩)
    generalize bs[i].regs=rg at c0 hA HBI;generalize bs[i].acts=l at c1 hxa hA HBI;obtain⟨nl,hnl⟩:=eX l.length;have HNL:=yA hnl;rw[<-hnl] at c1;have hbW:z<wr.heap.size:=HP.out.1.lt (by simp);have hb2W:b2<wr.heap.size:=HP.out.2.2.2.1.lt (by simp);have HBW:Hid (z<wr.heap.size/\b2<wr.heap.size):=⟨hbW,hb2W⟩;have HLX:Hid (zAl wr F l ba/\(∀k,F k->k<wr.heap.size)/\Ac.zAC ⟨cs,mu,bs⟩ rg l=true/\Ac.zT l<=500):=⟨hxa,HUR.low,hA⟩;clear HUR hxa hA hnl hg hbW hb2W;go_upto_region 7 with fail
    obtain⟨b6,w6,e1,e2,R6,K6,_⟩:=newRow wr [rg,.slice ba nl bc] 48;try rw[e1]
    try rw[e2]
    have y6:=R6.all2;have k6:=zF w6;have HR6:=yA R6;have HK6:=yA K6;clear e1 e2 R6 K6 c0 c1;go_upto_region 8 with fail
    obtain⟨b7,w7,e1,e2,R7,K7,_⟩:=newRow w6 [rg,rg,.slice none 0 0] 154;try rw[e1]
    try rw[e2]
    have HB7:Hid (wr.heap.size<=b7/\b7=w6.heap.size):=⟨by rw[<-e1];exact HK6.out.size,e1.symm⟩;have HC7:Hid (zB6 w7 b7 rg rg (.slice none 0 0) []):=⟨R7,World.ownsRow_nil _ _ _ _,λq e=>by exact J170 _,none,0,rfl⟩;have HK7:Hid (Keeps zA wr w7):=HK6.out.zC K7;have y6:=(HR6.out.keeps K7 (λh=>h)).all2;have k7:=zF w7
    have HCA:Hid (Calls Tryz.prog 70 #[.pointer (some ⟨b7,0,none⟩),.slice ba nl bc,(0:Int)] w7 λe w'=>∃v' mo l',e=.returned (.tuple #[])/\l'.length<=2*Ac.zT l/\zB6 w' b7 rg mo v' l'/\zV w7 b7 (.slice none 0 0) w' v'/\(l=[]->mo=rg/\l'=[])):=by
     show Calls _ _ _ _ _
     rw[HNL.out]
     exact zQD l ⟨cs,mu,bs⟩ rg b7 rg F w7 0 ba bc HC7.out (HLX.out.1.keeps HK7.out (λ_ _ h=>h)) (λq hq=>⟨yH (HLX.out.2.1 q hq) HK7.out.size,λe=>by
      have h1:=HLX.out.2.1 q hq;have h2:=HB7.out.1;rcases e with e|e
      ·omega
      ·simp[Value.ownBlock] at e⟩) HLX.out.2.2.1 (by have:=HLX.out.2.2.2;omega)
    clear e1 e2 R7 K7 k6;go_upto_region 9 with(go_at_call 70;refine HCA.out.mono ?_;rintro e w8 ⟨v8,mo,l8,rfl,h8a,h8b,h8c,h8d⟩;have H8:Hid (l8.length<=1000/\zB6 w8 b7 rg mo v8 l8/\zV w7 b7 (.slice none 0 0) w8 v8/\(l=[]->mo=rg/\l8=[])):=⟨by have:=HLX.out.2.2.2;omega,h8b,h8c,h8d⟩;clear h8a h8b h8c h8d y6 k7)
    go_upto_region 10 with(go_at_call 71;refine(zJS H8.out.2.1 ⟨_,_,_,_⟩ [] none 0 ⟨none,0,rfl,λh=>absurd rfl h⟩ (by have:=H8.out.1;omega) (H8.out.2.1.row.lt (by simp)) (λg o e=>by cases e) (by decide)).mono ?_;rintro e w9 ⟨v9,rfl,h9a,h9b,h9c⟩;have H9:Hid (zB6 w9 b7 rg mo v9 (l8++[⟨29,0,0,0⟩])/\zV w7 b7 (.slice none 0 0) w9 v9):=⟨h9a,xP (HC7.out.row.lt (by simp)) H8.out.2.2.1 ⟨h9b,h9c⟩⟩;clear h9a h9b h9c)
    obtain⟨gI,nI,cI,hv9,hcI,hgI⟩:∃gI nI cI,v9=.slice (some ⟨gI,0,none⟩) nI cI/\(nI<=cI/\cI<=maxLen)/\Hid (nI=l8.length+1/\zB w9 gI ((l8++[(⟨29,0,0,0⟩:LIn)]).flatMap LIn.cells)/\gI≠b7/\w7.heap.size<=gI):=by
     obtain⟨la,lc,hf⟩:=H9.out.1.form;rw[xC] at hf;have ho:=H9.out.1.own;rw[hf,xC] at ho;rcases ho.2 with⟨e,_⟩|⟨gI,cap,cur,e,_,_,h1,h2,_⟩
     ·simp at e
     ·simp only[xH] at e
      obtain⟨rfl,h3,rfl⟩:=e;refine⟨gI,_,lc,hf,⟨h1,h2⟩,rfl,uB ho,H9.out.1.ne gI (by rw[hf];rfl),?_⟩
      rcases H9.out.2.own gI (by rw[hf];rfl) with h|h
      ·exact J65 _
      ·exact h
    subst hv9
    have HM9:Hid (∀q,q<w7.heap.size->q≠b7->¬Mine b7 (.slice none 0 0) q):=λq h1 h2 e=>by
     rcases e with e|e
     ·exact h2 e
     ·simp[Value.ownBlock] at e
    have HZ7:Hid (z<w7.heap.size/\z≠b7/\b2≠b7/\b2<w7.heap.size/\b7<w7.heap.size):=by have h1:=HBW.out;have h2:=HB7.out.1;have h3:=HK7.out.size;exact⟨by omega,by omega,by omega,by omega,HC7.out.row.lt (by simp)⟩
    have HK79:=H9.out.2.keeps;have HRZ9:=yA ((HP.out.1.keeps HK7.out (λh=>h)).keeps HK79 (HM9.out z HZ7.out.1 HZ7.out.2.1));have HR29:=yA ((HP.out.2.2.2.1.keeps HK7.out (λh=>h)).keeps HK79 (HM9.out b2 HZ7.out.2.2.2.1 HZ7.out.2.2.1))
    have HOW9:Hid (w9.ownsRow 0 161 2 (.slice ta i tc) i L):=zD (zD HP.out.2.1 HK7.out (λ_ _ h=>h)) HK79 (λq e=>by
     have h1:q<wr.heap.size:=zM HP.out.2.1 e;have h2:=HB7.out.1;have h3:=HK7.out.size;exact HM9.out q (by omega) (by omega))
    have HK9:Hid (Keeps zA wr w9):=HK7.out.trans HK79 (λq hq e=>by
     have h2:=HB7.out.1;rcases e with e|e
     ·omega
     ·simp[Value.ownBlock] at e)
    have yz:=HRZ9.out.zA7;have yb:=H9.out.1.row.zA7;have hi8:i<8:=by omega
    have HP3:=yA HP.out.2.2.1;have HPO:Hid (wr.ownsRow 0 161 2 (.slice ta i tc) i L):=HP.out.2.1;have HP5:=yA HP.out.2.2.2.2;clear HK79 HP;refine zBG 13 (by kernel_rfl) [some ((.pointer (some ⟨z,2,none⟩))),some (.slice ta i tc),some ((.pointer (some ⟨b7,0,none⟩))),some ((.pointer (some ⟨b7,0,none⟩))),some ((.pointer (some ⟨b7,1,none⟩))),some (.int .i64 mo),some ((.pointer (some ⟨b7,0,none⟩))),some ((.pointer (some ⟨b7,0,none⟩))),some ((.pointer (some ⟨b7,2,none⟩))),some (.slice (some ⟨gI,0,none⟩) nI cI),some (.slice (some ⟨gI,0,none⟩) nI nI),some (.agg #[mo,.slice (some ⟨gI,0,none⟩) nI nI]),none] rfl (λj v W=>∃g,v=.slice (some ⟨g,0,none⟩) 1 1/\zB W g [mo,.slice (some ⟨gI,0,none⟩) nI nI]) (λj v W W' h hk=>by exact J181 _) ?_ ?_
    ·refine⟨?_,?_,?_,?_,?_,?_,?_,?_,?_,?_,?_,?_,?_,trivial⟩ <;> (intro vs gs W Q' hR hd hK;have HRW:Keeps zA w9 W:=((zF w9).drew).zC hR;simp only[zBK,zAt,zBo,zJ,tz,Option.bind,Act.put] at hd hK ⊢;try simp only[hd] at hK ⊢)
     all_goals try(try clear hd;go_wp2_with (go_at_call 72;refine(zKZ _ gI nI cI hcI.1 hcI.2).mono ?_;rintro e W1 ⟨rfl,rfl⟩);first|exact hK _ _ (yB _ _) rfl)
     ·exact J46 _
    ·intro vs W hR hFF
     have HRW:Keeps zA w9 W:=((zF w9).drew).zC hR;obtain⟨g12,e12,rg12⟩:=(hFF 12 (by decide):∃g,vs 12=.slice (some ⟨g,0,none⟩) 1 1/\zB W g [mo,.slice (some ⟨gI,0,none⟩) nI nI]);have e0:vs 0=_:=hFF 0 (by decide);have e1:vs 1=_:=hFF 1 (by decide);simp only[zJ,tz,Option.bind,Act.put];rw[e0,e1,e12];have HRG:=yA rg12;have HKW9:=yA HRW;have HBW9:=yA (HRZ9.out.keeps HRW (λh=>h));have HOWW:=yA (zD HOW9.out HRW (λ_ _ h=>h));clear hFF e0 e1 e12 rg12 hR HRW yz yb;go_upto_region 11 with(at_builtin;refine zI _ (by rfl) _ _ 76 (by rfl) 0 161 j0 _ 2 32 Tryz.underlying76 hj0 hy0 hy1 hy2 rfl (by decide) (.slice ta i tc) i L (by rfl) HOWW.out (.slice (some ⟨g12,0,none⟩) 1 1) 1 [.int .i64 mo,.slice (some ⟨gI,0,none⟩) nI nI] (by rfl) (xE HRG.out) rfl (by simp[Value.oneCell']) (by unfold maxLen;omega) (by omega) (yF _) ?_;intro ta2 tc2 w10 hout;have HO:=yA hout;have zr:=HBW9.out.keeps (xD hout (yB (λq=>(Value.slice ta i tc).ownBlock=some q) _) (λq e _=>e)) (λe=>(HP3.out z e).1 rfl);have zc:=zr.cell (k:=2) rfl;have zf:=zr.free (k:=2) (by simp);have HZR:=yA zr;clear hout zr)
     have hrow:=HZR.out.set 2 (by simp) (.slice ta2 (i+1) tc2);have kS:Keeps (λq=>q=z) w10 (w10.setCell ⟨z,2,none⟩ (.slice ta2 (i+1) tc2)):=(yB (λq=>q=z) w10).setCell (p:=⟨z,2,none⟩) (λ_=>rfl) _;have hrow:zB (w10.setCell ⟨z,2,none⟩ (.slice ta2 (i+1) tc2)) z [.slice ad nc nc,.int .i64 mu,.slice ta2 (i+1) tc2]:=hrow;generalize w10.setCell ⟨z,2,none⟩ (.slice ta2 (i+1) tc2)=w11 at hrow kS ⊢;have kA:Keeps (λq=>(Value.slice ta i tc).ownBlock=some q) W w10:=xD HO.out (yB _ _) (λq e _=>e)
     have hnew:∀q,(Value.slice ta2 (i+1) tc2).ownBlock=some q->q≠z/\w4.heap.size<=q:=λq e=>by
      rcases HO.out.2.2 q e with g|g
      ·exact HP3.out q g
      ·have h1:=HKW9.out.size
       have h2:=HK9.out.size;have h3:=HP5.out.2;have h4:=HRZ9.out.lt (by simp);exact J54 _
     have HFIN:Hid (zB w11 z [.slice ad nc nc,mu,.slice ta2 (i+1) tc2]/\w11.ownsRow 0 161 2 (.slice ta2 (i+1) tc2) (i+1) (L++[.int .i64 mo,.slice (some ⟨gI,0,none⟩) nI nI])/\(∀q,(Value.slice ta2 (i+1) tc2).ownBlock=some q->q≠z/\w4.heap.size<=q)/\zB w11 b2 [.slice none 0 0,(0:Int),.slice none 0 0]/\Keeps zA w w11/\w4.heap.size<=w11.heap.size):=by
      have hz:=HZ.out;have h42:=HK04.out.size;have h34:=HK4.out.size;have h03:=HK3'.out.size;refine⟨hrow,zD HO.out.1 kS (λq e e2=>(hnew q e).1 e2),hnew,((HR29.out.keeps HKW9.out (λh=>h)).keeps kA (λe=>by have:=(HP3.out b2 e).2;omega)).keeps kS (λe=>by have e':b2=z:=e;omega),?_,?_⟩
      ·exact(((HP5.out.1.zC HK9.out).zC HKW9.out).trans kA (λq hq e=>by have:=(HP3.out q e).2;omega)).trans kS (λq hq e=>by have e':q=z:=e;omega)
      ·have h1:=HKW9.out.size
       have h2:=HK9.out.size;have h3:=HP5.out.2;have h4:=kA.size;have h5:=kS.size;omega
     have HXN:Hid (i+1=1->∀rg,bs=[⟨rg,[]⟩]->∃gI,zl w11 (.slice ta2 1 tc2) 1 [.int .i64 rg,.slice (some ⟨gI,0,none⟩) 1 1]/\zl w11 (.slice (some ⟨gI,0,none⟩) 1 1) 1 [.int .i64 29,.int .i64 0,.int .i64 0,.int .i64 0]/\w4.heap.size<=gI):=λhi1 rg' e=>by
      obtain⟨er,el⟩:=HBI rg' e;obtain⟨em,el8⟩:=H8.out.2.2.2 el;have h0:i=0:=by omega
      have hn1:nI=1:=by rw[hgI.out.1,el8];rfl
      have hL:L=[]:=xW (by have:=HOW9.out.1;rw[h0] at this;simpa using this);have ho:=HFIN.out.2.1;have hg:=hgI.out.2.1;rw[h0,hL,uG,em,er,hn1] at ho;rw[el8,uG] at hg;have hz:=HZ7.out;have h42:=HP5.out.2;refine⟨gI,(zAV.of (B:=0) ho (λ_ _=>yF _)).src,xE (((hg.keeps HKW9.out (λh=>h)).keeps kA (λe=>?_)).keeps kS (λe=>by have e':gI=z:=e;have:=hgI.out.2.2.2;omega)),?_⟩
      ·have h1:gI<wr.heap.size:=by have:=zM HPO.out e;omega
       have h2:=hgI.out.2.2.2;have h3:=HK7.out.size;omega
      ·have h2:=hgI.out.2.2.2
       have h3:=HK7.out.size;omega
     clear hrow kS kA zc zf hnew;go_wp2_with fail
     exact⟨⟨i+1,ta2,tc2,_,by omega,by go_num,HFIN.out,HXN.out⟩,by simp[intOf];omega⟩
   ·obtain rfl:i=nb:=by omega
    have y:=HP.out.1.zA7;have kz:=zF wr;have hb:=HP.out.2.2.2.1;have c0:=hb.cell (k:=0) rfl;have c1:=hb.cell (k:=1) rfl;have c2:=hb.cell (k:=2) rfl;have g0:=hb.free (k:=0) (by decide);have g1:=hb.free (k:=1) (by decide);have g2:=hb.free (k:=2) (by decide);have HBR:=yA hb;clear hb;go_wp2_with fail
    have hrow:zB (((wr.setCell ⟨b2,0,none⟩ (.slice ad nc nc)).setCell ⟨b2,1,none⟩ (.int .i64 mu)).setCell ⟨b2,2,none⟩ (.slice ta i tc)) b2 [.slice ad nc nc,.int .i64 mu,.slice ta i tc]:=((HBR.out.set 0 (by simp) _).set 1 (by simp) _).set 2 (by simp) _
    have hks:Keeps (λq=>q=b2) wr (((wr.setCell ⟨b2,0,none⟩ (.slice ad nc nc)).setCell ⟨b2,1,none⟩ (.int .i64 mu)).setCell ⟨b2,2,none⟩ (.slice ta i tc)):=
     (((yB (λq=>q=b2) wr).setCell (p:=⟨b2,0,none⟩) (λ_=>rfl) _).setCell (p:=⟨b2,1,none⟩) (λ_=>rfl) _).setCell (p:=⟨b2,2,none⟩) (λ_=>rfl) _
    generalize ((wr.setCell ⟨b2,0,none⟩ (.slice ad nc nc)).setCell ⟨b2,1,none⟩ (.int .i64 mu)).setCell ⟨b2,2,none⟩ (.slice ta i tc)=wE at hrow hks ⊢;refine xK (v:=.tuple #[.agg #[.slice ad nc nc,mu,.slice ta i tc],(0:Int)]) (by simp[results,Tryz.results32,go_sem,hrow.cell (k:=0) rfl,hrow.cell (k:=1) rfl,hrow.cell (k:=2) rfl]) rfl ?_
    have hz:=HZ.out;have h34:=HK4.out.size;refine⟨ad,ta,tc,rfl,HP.out.2.2.2.2.1.trans hks (λq hq e=>by have e':q=b2:=e;have:=HB2.out.1;omega),λrg e=>?_⟩
    have hn1:i=1:=by rw[HNB.out,e];rfl
    obtain⟨gI,s1,s2,s3⟩:=HX.out hn1 rg e;rw[hn1] at HP;exact⟨gI,s1.keeps hks (λq e1 e2=>by have e':q=b2:=e2;have:=(HP.out.2.2.1 q e1).2;omega),s2.keeps hks (λq e1 e2=>by have e':q=b2:=e2;simp[Value.ownBlock] at e1;omega)⟩
