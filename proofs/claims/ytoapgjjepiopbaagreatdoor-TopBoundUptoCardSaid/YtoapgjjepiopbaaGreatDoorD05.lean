/- Layer D: texts joined. -/
import Derived.Test.YtoapgjjepiopbaaGreatDoorD04
set_option linter.all false
set_option maxHeartbeats 2000000
set_option maxRecDepth 8000
namespace Go.Proofs.YtoapgjjepiopbaaGreatDoor
open Go.RowKit
abbrev kR:=@List.not_mem_nil
abbrev vQ:=@zAz.st
abbrev xZ:=@Prod.mk.injEq
abbrev xS:=@List.take_length
abbrev xJ:=@Keeps.zC
abbrev yZ:=@List.drop_succ_cons
abbrev yY:=@Go.wp_loop_rounds
abbrev yQ:=@Go.rounds_succ
abbrev yO:=@Option.bind_some
abbrev yE:=@List.setIfInBounds_toArray
abbrev yD:=@List.getElem?_cons_succ
theorem J2(P:Prop) (h:P:=by
 clear hd;go_wp2_with fail
 exact hK _ _ (yB _ _) rfl):P:=h
theorem J12(P:Prop) (h:P:=by
 have r4:=R3.out.keeps k3 (λh=>h);obtain⟨a0,a1,a2⟩:=r4.three;obtain⟨d0,d1,d2,d3⟩:=r5.four;have f0:=r4.free (k:=0) (by simp);have f1:=r4.free (k:=1) (by simp);have f2:=r4.free (k:=2) (by simp);have R4:=yA r4;have KE:Hid (Keeps zA w w3):=K1.out.zC k3;clear r4 k3 r5 hb5;go_wp2_with fail
 have hks:Keeps (λq=>q=b3) w3 (((w3.setCell ⟨b3,0,none⟩ (.int .i64 0)).setCell ⟨b3,1,none⟩ (.int .i64 0)).setCell ⟨b3,2,none⟩ (.string { data:=#[] })):=(((yB (λq=>q=b3) w3).setCell (p:=⟨b3,0,none⟩) (λ_=>rfl) _).setCell (p:=⟨b3,1,none⟩) (λ_=>rfl) _).setCell (p:=⟨b3,2,none⟩) (λ_=>rfl) _;have hrow:zB (((w3.setCell ⟨b3,0,none⟩ (.int .i64 0)).setCell ⟨b3,1,none⟩ (.int .i64 0)).setCell ⟨b3,2,none⟩ (.string { data:=#[] })) b3 [.int .i64 0,.int .i64 0,.string { data:=#[] }]:=((R4.out.set 0 (by simp) _).set 1 (by simp) _).set 2 (by simp) _;generalize ((w3.setCell ⟨b3,0,none⟩ (.int .i64 0)).setCell ⟨b3,1,none⟩ (.int .i64 0)).setCell ⟨b3,2,none⟩ (.string { data:=#[] })=wE at hrow hks ⊢;refine xK (v:=.tuple #[.slice ad n c,.agg #[(0:Int),(0:Int),.string { data:=#[] }]]) (by simp[results,Tryz.results224,go_sem,hrow.cell (k:=0) rfl,hrow.cell (k:=1) rfl,hrow.cell (k:=2) rfl]) rfl ?_
 exact⟨⟨_,_,_,rfl⟩,KE.out.trans hks (λq hq e=>by have e':q=b3:=e;have:=HB.out;omega)⟩):P:=h
theorem J47(P:Prop) (h:P:=by
 clear hd;go_wp2_with fail
 exact hK _ _ ((yB _ _).alloc _) ⟨_,rfl,yK (yG W _)⟩):P:=h
theorem J120(P:Prop)(h:P:=by exact⟨⟨_,_,_,_,_,_,rfl⟩,KE.out.trans hks (λq hq e=>by have e':q=b3:=e;have:=HB.out;omega)⟩):P:=h
theorem J132(P:Prop) (h:P:=by
 have e0:vs 0=_:=hd 0 (by kernel_rfl);rw[e0] at hK ⊢;exact J2 _):P:=h
theorem J136(P:Prop) (h:P:=by
 have e4:vs 4=_:=hd 4 (by kernel_rfl);rw[e4] at hK ⊢;exact J2 _):P:=h
theorem J137(P:Prop) (h:P:=by
 have e1:vs 1=_:=hd 1 (by kernel_rfl);rw[e1] at hK ⊢;exact J2 _):P:=h
theorem J138(P:Prop) (h:P:=by
 have e3:vs 3=_:=hd 3 (by kernel_rfl);rw[e3] at hK ⊢;exact J2 _):P:=h
theorem J143(P:Prop) (h:P:=by
 have e9:vs 9=_:=hd 9 (by kernel_rfl);rw[e9] at hK ⊢;exact J2 _):P:=h
theorem J146(P:Prop) (h:P:=by
 have e8:vs 8=_:=hd 8 (by kernel_rfl);rw[e8] at hK ⊢;exact J2 _):P:=h
theorem J166(P:Prop) (h:P:=by
 have e6:vs 6=_:=hd 6 (by kernel_rfl);have e7:vs 7=_:=hd 7 (by kernel_rfl);rw[e6,e7] at hK ⊢;exact J2 _):P:=h
theorem J172(P:Prop)(h:P:=by intro q hq;simp only[xU,kR,or_false] at hq;rcases hq with rfl|rfl|rfl|rfl <;> rfl):P:=h
theorem J178(P:Prop)(h:P:=by rw[hb3];exact(yK (yG w _)).alloc _):P:=h
theorem J184(P:Prop)(h:P:=by intro q hq;simp only[xU,kR,or_false] at hq;rcases hq with rfl|rfl|rfl|rfl|rfl|rfl|rfl|rfl|rfl|rfl <;> rfl):P:=h
theorem J186(P:Prop)(h:P:=by rw[hb3];exact yK (yG w _)):P:=h
theorem J188(P:Prop)(h:P:=by have h1:=HAW.out.2.1;rw[HLEN.out] at h1;exact h1):P:=h
theorem J199(P:Prop)(h:P:=by rw[HLEN.out];exact HAO.out):P:=h
theorem J205(P:Prop)(h:P:=by rw[hb5];exact yK (yG w2 _)):P:=h
theorem J216(P:Prop)(h:P:=by simp[results,Tryz.results256,go_sem,hrow.cell (k:=0) rfl,hrow.cell (k:=1) rfl,hrow.cell (k:=2) rfl,hrow.cell (k:=3) rfl]):P:=h
mutual
def Ac.plain:Ac->St
 | .mk k _ _ x _ t e=>.mk k zw zw x 0 (Ac.zAM t) (Ac.zAM e)
def Ac.zAM:List Ac->List St
 | []=>[]
 | x :: r=>Ac.plain x :: Ac.zAM r
end
theorem Ac.zET(l:List Ac):Ac.zAM l=l.map Ac.plain:=by
 induction l with
 | nil=>rfl
 | cons x r ih=>simp[Ac.zAM,ih]
theorem Ac.zNR(x:Ac):x.plain=.mk x.kind zw zw x.ex 0 (Ac.zAM x.thn) (Ac.zAM x.els):=by
 cases x;simp only[Ac.plain,Ac.kind,Ac.ex,Ac.thn,Ac.els]
theorem Ac.zDQ(l:List Ac):(Ac.zAM l).length=l.length:=by rw[Ac.zET];simp
def zCx(l:List Ac):Prop:=∀(w:World)(F:Nat->Prop)(ad:Option Addr)(cap:Nat),zAl w F l ad->(∀k,F k->k<w.heap.size)->Ac.szL l<1000000000 →
 Calls Tryz.prog 49 #[.slice ad l.length cap] w λe w'=>∃ad' cap',e=.returned (.slice ad' l.length cap')/\zx w' (λk=>F k\/(w.heap.size<=k/\k<w'.heap.size)) (Ac.zAM l) ad'/\Keeps zA w w'
theorem zI1:(Tryz.prog.info? 191).map (λi=>(i.zero,i.size,i.bytes))=some (some (.agg #[(0:Int),zw,zw,(0:Int),(0:Int),zw,.slice none 0 0,(0:Int),.slice none 0 0,.slice none 0 0]),10,152):=by kernel_rfl
theorem info_parts{P:Program}{t:TypeId}{z:Value}{s b:Nat}(h:(P.info? t).map (λi=>(i.zero,i.size,i.bytes))=some (some z,s,b)):∃i,P.info? t=some i/\i.zero=some z/\i.size=s/\i.bytes=b:=by
 cases hi:P.info? t with
 | none=>rw[hi] at h;cases h
 | some i =>
   rw[hi] at h;simp only[vM,yN,xZ] at h;exact⟨i,rfl,h.1,h.2.1,h.2.2⟩
theorem zx.mono{F F':Nat->Prop}{w:World}{l:List St}{ad:Option Addr}(h:zx w F l ad)(hF:∀k,F k->F' k):zx w F' l ad:=by
 obtain⟨css,h0,h1⟩:=h;exact⟨css,h0.mono hF,λi y e=>(h1 i y e).mono hF⟩
theorem zB.src{w:World}{g n c:Nat}{cs:List Value}(h:zB w g cs):zl w (.slice (some ⟨g,0,none⟩) n c) n cs:=⟨_,c,rfl,λ_=>⟨g,0,rfl,h.rng⟩⟩
theorem zEb(l:List Ac)(ih:∀y,y∈l->zCx y.thn/\zCx y.els):zCx l:=by
 intro w F ad cap h hF hb
 have HL:=yA h;have IH:=yA ih;have HF:=yA hF;have hl:=Ac.zAe l;have hb2:l.length<1000000000:=by omega
 have HB:=yA hb;obtain⟨j0,hj0,hz0,hz1,hz2⟩:=info_parts zI1;obtain⟨B,hB⟩:=eX w.heap.size;have HBE:=yA hB;clear h ih hl hb hF hB;go_enter Tryz.func49,Tryz.ntmps49
 go_wp2_with fail
 go_loopw [3,4] (λov iv wr=>∃(i:Nat)(da:Option Addr)(dc:Nat)(css:List (List Value)),i<=l.length/\iv=.int .i64 i/\ov=.slice da i dc/\Hid (Acc zCA F B 10 191 wr (.slice da i dc) (Ac.zAM (l.take i)) css)/\Hid (Keeps zA w wr)) (λ_ iv _=>l.length-(intOf iv).toNat)
 case atStart=>exact⟨0,none,0,[],yF _,rfl,rfl,Acc.nil w,yB _ _⟩
 case round =>
  obtain⟨i,da,dc,css,hi,rfl,rfl,HA,HK⟩:=hrel;by_cases hlt:i<l.length
  ·have i1:(0:Int)<=i:=by omega
   have i2:(i:Int)<l.length:=by omega
   have HBR:Hid (B<=wr.heap.size):=by show _<=_;rw[HBE.out];exact HK.out.size
   obtain⟨g,o,xa,xc,ta,tc,ea,ec,e1,hg,d0,d1,d2,d3,d4,d5,d6,d7,d8,d9,hx,hxt,hxe⟩:=(HL.out.keeps HK.out (λ_ _ h=>h)).at hlt;subst e1;have hIHi:=IH.out _ (yI hlt);have hszi:l[i].sz<1000000000:=by have:=Ac.zCI (yI hlt);have:=HB.out;omega
   rw[Ac.zCZ] at hszi;have hlF:∀k,F k->k<wr.heap.size:=λk hk=>yH (HF.out k hk) HK.out.size
   have HT:Hid (∀W,Keeps zA wr W->Calls Tryz.prog 49 #[.slice ta l[i].thn.length tc] W λe w'=>∃ad' cap',e=.returned (.slice ad' l[i].thn.length cap')/\zx w' (λk=>F k\/(W.heap.size<=k/\k<w'.heap.size)) (Ac.zAM l[i].thn) ad'/\Keeps zA W w'):=
    λW hk=>hIHi.1 W F ta tc (hxt.keeps hk (λ_ _ h=>h)) (λk hf=>yH (hlF k hf) hk.size) (by omega)
   have HE:Hid (∀W,Keeps zA wr W->Calls Tryz.prog 49 #[.slice ea l[i].els.length ec] W λe w'=>∃ad' cap',e=.returned (.slice ad' l[i].els.length cap')/\zx w' (λk=>F k\/(W.heap.size<=k/\k<w'.heap.size)) (Ac.zAM l[i].els) ad'/\Keeps zA W w'):=
    λW hk=>hIHi.2 W F ea ec (hxe.keeps hk (λ_ _ h=>h)) (λk hf=>yH (hlF k hf) hk.size) (by omega)
   have HX:=yA hx;obtain⟨pt,hpt⟩:=eX (Ac.zAM l[i].thn);obtain⟨pe,hpe⟩:=eX (Ac.zAM l[i].els);have hlt2:pt.length=l[i].thn.length:=by rw[hpt,Ac.zDQ]
   have hle2:pe.length=l[i].els.length:=by rw[hpe,Ac.zDQ]
   obtain⟨x,hxx⟩:=eX (l[i].ex);have HP:Hid (l[i].plain=.mk l[i].kind zw zw x 0 pt pe):=by show _=_;rw[Ac.zNR,hpt,hpe,hxx]
   rw[<-hpt] at HT;rw[<-hpe] at HE;rw[<-hlt2] at HT d8;rw[<-hle2] at HE d9;rw[<-hxx] at HX d3 d4 d5 d6;clear hIHi hszi hlF hx hxt hxe hpt hpe hlt2 hle2 hxx d1 d2 d7;generalize l[i].kind=x0 at d0 HP;obtain⟨x3,q3⟩:=eX x.kind;obtain⟨x4,q4⟩:=eX x.num;obtain⟨x5,q5⟩:=eX x.nm;obtain⟨x6,q6⟩:=eX x.args.length;obtain⟨x8,q8⟩:=eX pt.length;obtain⟨x9,q9⟩:=eX pe.length;have HQ:Hid (x3=x.kind/\x4=x.num/\x5=x.nm/\x6=x.args.length/\x8=pt.length/\x9=pe.length):=⟨q3,q4,q5,q6,q8,q9⟩;rw[<-q3] at d3;rw[<-q4] at d4;rw[<-q5] at d5;rw[<-q6] at d6;rw[<-q8] at d8 HT;rw[<-q9] at d9 HE;clear q3 q4 q5 q6 q8 q9;go_upto_region 6 with(go_at_call 49;refine(HT.out _ (yB _ _)).mono ?_;rintro e w2 ⟨ta2,tc2,rfl,s1,g1⟩;have S1:=yA s1;have G1:=yA g1;have d9':=g1.cell (p:=⟨g,o+i*10+9,none⟩) (λh=>h) d9;clear s1 g1)
   go_upto_region 7 with(go_at_call 49;refine(HE.out _ G1.out).mono ?_;rintro e w3 ⟨ea2,ec2,rfl,s2,g2⟩;have S2:=yA s2;have G2:=yA g2;clear s2 g2)
   have HG:Hid (Keeps zA wr w3):=G1.out.zC G2.out;clear d9';refine zW 15 (by kernel_rfl) (by kernel_rfl) (Keeps zA) (yB zA) (λa b c h h'=>xJ h h') (zAz [some (.slice da i dc),some (.slice (some ⟨g,o,none⟩) l.length cap),some (.int .i64 i),some (.pointer (some ⟨g,o+i*10,none⟩)),some (.pointer (some ⟨g,o+i*10,none⟩)),some (.int .i64 x0),some (.slice (some ⟨g,o,none⟩) l.length cap),some (.int .i64 i),some (.pointer (some ⟨g,o+i*10,none⟩)),some (.pointer (some ⟨g,o+i*10+3,none⟩)),some (.agg #[x3,x4,x5,.slice xa x6 xc]),some (.slice ta2 x8 tc2),some (.slice ea2 x9 ec2),some (.agg #[x0,zw,zw,x3,x4,x5,.slice xa x6 xc,(0:Int),.slice ta2 x8 tc2,.slice ea2 x9 ec2])] (λ_ v W=>∃b,v=.slice (some ⟨b,0,none⟩) 1 1/\zB W b [x0,zw,zw,x3,x4,x5,.slice xa x6 xc,(0:Int),.slice ta2 x8 tc2,.slice ea2 x9 ec2])) (vQ (λj v W W' h hk=>by obtain⟨b,e,h1⟩:=h;exact⟨b,e,h1.keeps hk (λh=>h)⟩)) ?_ ?_
   ·intro q oo hq ho vs W Q' hR hd hK
    have HR':Keeps zA wr W:=HG.out.zC (((yB zA w3).drew).zC hR);have c0:=HR'.cell (p:=⟨g,o+i*10,none⟩) (λh=>h) d0;have c3:=HR'.cell (p:=⟨g,o+i*10+3,none⟩) (λh=>h) d3;have c4:=HR'.cell (p:=⟨g,o+i*10+4,none⟩) (λh=>h) d4;have c5:=HR'.cell (p:=⟨g,o+i*10+5,none⟩) (λh=>h) d5;have c6:=HR'.cell (p:=⟨g,o+i*10+6,none⟩) (λh=>h) d6;clear d0 d3 d4 d5 d6 d8 d9 HR';rcases (show q=0\/q=1\/q=2\/q=3\/q=4\/q=5\/q=6\/q=7\/q=8\/q=9\/q=10\/q=11\/q=12\/q=13\/q=14 by omega) with rfl|rfl|rfl|rfl|rfl|rfl|rfl|rfl|rfl|rfl|rfl|rfl|rfl|rfl|rfl
    all_goals (simp only[yC,yD,yN] at ho;subst ho;simp only[zJ,yC,yD,yO,Option.bind,Act.put,yE,yM,yJ] at hK ⊢;clear hq)
    ·exact J2 _
    ·exact J2 _
    ·exact J2 _
    ·have e1:vs 1=_:=hd 1 (by kernel_rfl)
     have e2:vs 2=_:=hd 2 (by kernel_rfl);rw[e1,e2] at hK ⊢;exact J2 _
    ·exact J138 _
    ·exact J136 _
    ·exact J2 _
    ·exact J2 _
    ·exact J166 _
    ·exact J146 _
    ·exact J143 _
    ·exact J2 _
    ·exact J2 _
    ·have e5:vs 5=_:=hd 5 (by kernel_rfl)
     have e10:vs 10=_:=hd 10 (by kernel_rfl);have e11:vs 11=_:=hd 11 (by kernel_rfl);have e12:vs 12=_:=hd 12 (by kernel_rfl);rw[e5,e10,e11,e12] at hK ⊢;exact J2 _
    ·have e13:vs 13=_:=hd 13 (by kernel_rfl)
     rw[e13] at hK ⊢;exact J47 _
   ·intro vs W hR hF
    have HR':Keeps zA w3 W:=((yB zA w3).drew).zC hR;have HKW:Hid (Keeps zA wr W):=HG.out.zC HR';have e0:vs 0=_:=hF 0 (by decide);obtain⟨gs,e14,hgs⟩:=(hF 14 (by decide):∃b,vs 14=.slice (some ⟨b,0,none⟩) 1 1/\zB W b [x0,zw,zw,x3,x4,x5,.slice xa x6 xc,(0:Int),.slice ta2 x8 tc2,.slice ea2 x9 ec2]);have HGS:=yA hgs;have HRW:=yA HR';simp only[zJ,yC,yD,yO,Option.bind,Act.put,yE,yM,yJ,yZ,yU];rw[e0,e14];clear hF e0 e14;generalize vs 1=y1;generalize vs 2=y2;generalize vs 3=y3;generalize vs 4=y4;generalize vs 5=y5;generalize vs 6=y6;generalize vs 7=y7;generalize vs 8=y8;generalize vs 9=y9;generalize vs 10=y10;generalize vs 11=y11;generalize vs 12=y12;generalize vs 13=y13;clear HR' hR hgs d0 d3 d4 d5 d6 d8 d9;have HAW:Hid (Acc zCA F B 10 191 W (.slice da i dc) (Ac.zAM (l.take i)) css):=HA.out.zG zJo HKW.out;have hlen:(Ac.zAM (l.take i)).length=i:=by rw[Ac.zDQ,List.length_take];omega
    have HLEN:=yA hlen;clear hlen;have i3:i+1<=1000000000:=by omega
    go_upto_region 4 with(at_builtin;refine zI _ (by rfl) _ _ 108 (by rfl) 0 191 j0 _ 10 152 Tryz.underlying108 hj0 hz0 hz1 hz2 rfl (by decide) (.slice da i dc) i css.flatten (by rfl) (J188 _) (.slice (some ⟨gs,0,none⟩) 1 1) 1 [.int .i64 x0,.string zw,.string zw,.int .i64 x3,.int .i64 x4,.string x5,.slice xa x6 xc,.int .i64 0,.slice ta2 x8 tc2,.slice ea2 x9 ec2] (by rfl) (zB.src HGS.out) rfl (J184 _) (by unfold maxLen;omega) (by omega) (yF _) ?_;intro da2 dc2 w4 ha;have HAO:=yA ha;clear ha)
    have hown:∀kb,(Value.slice da i dc).ownBlock=some kb->kb<wr.heap.size:=λkb e=>zM HA.out.2.1 e
    have hel:zCA W (zB1 F B W (.slice da i dc)) l[i].plain [.int .i64 x0,.string zw,.string zw,.int .i64 x3,.int .i64 x4,.string x5,.slice xa x6 xc,.int .i64 0,.slice ta2 x8 tc2,.slice ea2 x9 ec2]:=by
     have hb:=HBR.out;have k1:=G1.out.size;have k2:=G2.out.size;have k3:=HRW.out.size;have h0:zR W (zB1 F B W (.slice da i dc)) x.args xa:=(HX.out.keeps HKW.out (λ_ _ h=>h)).mono (λk hk=>.inl hk)
     have h1:zx W (zB1 F B W (.slice da i dc)) pt ta2:=(S1.out.keeps (G2.out.zC HRW.out) (λ_ _ h=>h)).mono (λk hk=>by
      rcases hk with hk|⟨h6,h7⟩
      ·exact .inl hk
      ·exact .inr ⟨by omega,by omega,λe=>by have:=hown k e;omega⟩)
     have h2:zx W (zB1 F B W (.slice da i dc)) pe ea2:=(S2.out.keeps HRW.out (λ_ _ h=>h)).mono (λk hk=>by
      rcases hk with hk|⟨h6,h7⟩
      ·exact .inl hk
      ·exact .inr ⟨by omega,by omega,λe=>by have:=hown k e;omega⟩)
     rw[HP.out];obtain⟨q3,q4,q5,q6,q8,q9⟩:=HQ.out;rw[q3,q4,q5,q6,q8,q9];exact zCA.zF1 (St.mk x0 zw zw x 0 pt pe) h0 h1 h2
    have hBW:B<=W.heap.size:=yX HBR.out HKW.out.size
    have hpush:Acc zCA F B 10 191 w4 (.slice da2 (i+1) dc2) (Ac.zAM (l.take (i+1))) (css++[[.int .i64 x0,.string zw,.string zw,.int .i64 x3,.int .i64 x4,.string x5,.slice xa x6 xc,.int .i64 0,.slice ta2 x8 tc2,.slice ea2 x9 ec2]]):=by
     have h1:=HAW.out.push zJo (λk hk=>by rw[HBE.out];exact HF.out k hk) hBW hel (by decide) (ad:=da2) (cap:=dc2) (w':=w4) (J199 _);rw[HLEN.out] at h1;have e:Ac.zAM (l.take (i+1))=Ac.zAM (l.take i)++[l[i].plain]:=by rw[Ac.zET,Ac.zET,take_at hlt,List.map_append];rfl
     rw[e];exact h1
    have HPU:=yA hpush;have HKE:Hid (Keeps zA w w4):=HAO.out.keeps (HK.out.zC HKW.out) (λk e hk=>by have:=HA.out.2.2.1 k e;have:=HBE.out;omega);clear hpush hel hown hBW;go_wp2_with fail
    go_roundw
    case rel=>exact⟨i+1,da2,dc2,css++[[.int .i64 x0,.string zw,.string zw,.int .i64 x3,.int .i64 x4,.string x5,.slice xa x6 xc,.int .i64 0,.slice ta2 x8 tc2,.slice ea2 x9 ec2]],by omega,by go_num,rfl,HPU,HKE⟩
    case measure=>simp[intOf];omega
  ·obtain rfl:i=l.length:=by omega
   go_wp2_with fail
   go_ret
   have hA:=HA.out;rw[xS] at hA;obtain⟨h1,h2⟩:=hA.elems zJo (ad:=da) (n:=l.length) (cap:=dc) rfl;rw[<-HBE.out];exact⟨da,dc,rfl,⟨_,h1,h2⟩,HK.out⟩
theorem zO8(l:List Ac):zCx l:=by
 have key:∀x:Ac,zCx x.thn/\zCx x.els:=λx=>Ac.ind (P:=λx=>zCx x.thn/\zCx x.els) (λk r o x c t e h1 h2=>⟨zEb t h1,zEb e h2⟩) x
 exact zEb l (λy _=>key y)
def acB(f:Fl)(reg regs obj most count:Int)(m z:Bool)(nt ne:Nat):Bool:=
 (if f.reg then decide (0<=reg)&&decide (reg<regs) else reg==0)&&(if f.name then decide (0<=obj)&&decide (obj<most) else obj==0)&&(if f.ex then m else z) &&
 (if f.count then decide (0<=count)&&decide (count<=1000) else count==0)&&(f.thn || nt==0)&&(f.els || ne==0)
theorem zGH(u:Un)(regs k reg obj:Int)(ex:Ex)(count:Int)(nt ne:Nat):
 zBH u regs k reg obj ex count nt ne=(decide (1<=k)&&decide (k<=11)&&acB (fields k) reg regs obj (zBJ u k) count (ex.may regs) ex.none nt ne):=by
 unfold zBH acB;simp only[Bool.and_assoc]
theorem zB.ten{w:World}{g:Nat}{a b c d e f h i j k:Value}(r:zB w g [a,b,c,d,e,f,h,i,j,k]):
 w.cell? ⟨g,0,none⟩=some a/\w.cell? ⟨g,1,none⟩=some b/\w.cell? ⟨g,2,none⟩=some c/\w.cell? ⟨g,3,none⟩=some d/\w.cell? ⟨g,4,none⟩=some e/\w.cell? ⟨g,5,none⟩=some f/\w.cell? ⟨g,6,none⟩=some h ∧
 w.cell? ⟨g,7,none⟩=some i/\w.cell? ⟨g,8,none⟩=some j/\w.cell? ⟨g,9,none⟩=some k:=
 ⟨r.cell rfl,r.cell rfl,r.cell rfl,r.cell rfl,r.cell rfl,r.cell rfl,r.cell rfl,r.cell rfl,r.cell rfl,r.cell rfl⟩
theorem zB.three{w:World}{g:Nat}{a b c:Value}(r:zB w g [a,b,c]):w.cell? ⟨g,0,none⟩=some a/\w.cell? ⟨g,1,none⟩=some b/\w.cell? ⟨g,2,none⟩=some c:=
 ⟨r.cell rfl,r.cell rfl,r.cell rfl⟩
theorem zB.four{w:World}{g:Nat}{a b c d:Value}(r:zB w g [a,b,c,d]):w.cell? ⟨g,0,none⟩=some a/\w.cell? ⟨g,1,none⟩=some b/\w.cell? ⟨g,2,none⟩=some c/\w.cell? ⟨g,3,none⟩=some d:=
 ⟨r.cell rfl,r.cell rfl,r.cell rfl,r.cell rfl⟩
theorem zMv(w:World):Calls Tryz.prog 289 #[(120:Int)] w λe w'=>e=.returned true/\Keeps zA w w':=by
 go_enter Tryz.func289,Tryz.ntmps289
 exact J31 _
theorem zPS(w:World):Calls Tryz.prog 257 #[(120:Int)] w λe w'=>e=.returned false/\Keeps zA w w':=by
 go_enter Tryz.func257,Tryz.ntmps257
 exact J31 _
theorem zPZ(w:World):Calls Tryz.prog 262 #[(120:Int)] w λe w'=>e=.returned false/\Keeps zA w w':=by
 go_enter Tryz.func262,Tryz.ntmps262
 exact J31 _
theorem zNp(w:World):Calls Tryz.prog 259 #[.int .i32 120] w λe w'=>e=.returned true/\Keeps zA w w':=by
 go_enter Tryz.func259,Tryz.ntmps259
 go_wp2_with (go_at_call 289;refine(zMv _).mono ?_;rintro e w1 ⟨rfl,g1⟩;have G1:=yA g1;clear g1)
 go_ret
 exact⟨rfl,G1.out⟩
theorem zMH(w:World):Calls Tryz.prog 287 #[.int .i32 120] w λe w'=>e=.returned (.int .i64 1)/\Keeps zA w w':=by
 go_enter Tryz.func287,Tryz.ntmps287
 exact J31 _
theorem zN2(w:World):Calls Tryz.prog 258 #[.string { data:=#[120] }] w λe w'=>e=.returned (.tuple #[.int .i32 120,(1:Int)])/\Keeps zA w w':=by
 go_enter Tryz.func258,Tryz.ntmps258
 go_wp2_with fail
 go_ret2
 exact⟨rfl,yB _ _⟩
theorem zH5(w:World)(ty:TypeId):(Instr.next (.pointer (some ⟨w.heap.size,0,none⟩)) true ty).run Tryz.prog (w.iter { data:=#[120] } 0)=.ok (.tuple #[true,(0:Int),.int .i32 120]) (w.iter { data:=#[120] } 1):=
 run_next_ascii w { data:=#[120] } 0 ty (by decide) (by decide)
theorem zPW(w:World)(ty:TypeId):(Instr.next (.pointer (some ⟨w.heap.size,0,none⟩)) true ty).run Tryz.prog (w.iter { data:=#[120] } 1)=.ok (.tuple #[false]) (w.iter { data:=#[120] } 1):=
 run_next_end w { data:=#[120] } 1 ty (by decide)
theorem zM0(w:World)(ty:TypeId):(Instr.next (.pointer (some ⟨w.heap.size,0,none⟩)) true ty).run Tryz.prog (w.iter { data:=#[] } 0)=.ok (.tuple #[false]) (w.iter { data:=#[] } 0):=
 run_next_end w { data:=#[] } 0 ty (by decide)
theorem zIx(w:World):Calls Tryz.prog 225 #[.string { data:=#[] }] w λe w'=>e=.returned (.int .i64 0)/\Keeps zA w w':=by
 have h1:=zM0 w;go_enter Tryz.func225,Tryz.ntmps225
 go_wp2_with fail
 refine yY 1 ?_
 rw[yQ];go_wp2_with fail
 go_ret
 exact⟨rfl,(yB _ _).alloc _⟩
theorem zNF(w:World):Calls Tryz.prog 225 #[.string { data:=#[120] }] w λe w'=>e=.returned (.int .i64 0)/\Keeps zA w w':=by
 have h1:=zH5 w;go_enter Tryz.func225,Tryz.ntmps225
 go_wp2_with fail
 refine yY 1 ?_
 rw[yQ];go_wp2_with (go_at_call 257;refine(zPS _).mono ?_;rintro e w1 ⟨rfl,g1⟩;have G1:=yA g1;clear g1)
 go_ret
 exact⟨rfl,((yB zA w).alloc _).zC G1.out⟩
theorem zQ9(w:World):Calls Tryz.prog 261 #[.string { data:=#[120] }] w λe w'=>e=.returned (.string { data:=#[120] })/\Keeps zA w w':=by
 have h1:=zH5 w;go_enter Tryz.func261,Tryz.ntmps261
 go_wp2_with fail
 refine yY 2 ?_
 rw[yQ];go_wp2_with (go_at_call 259;refine(zNp _).mono ?_;rintro e w1 ⟨rfl,g1⟩;have G1:=yA g1;clear g1)
 have h2:∀ty,(Instr.next (.pointer (some ⟨w.heap.size,0,none⟩)) true ty).run Tryz.prog w1=.ok (.tuple #[false]) w1:=λty =>
  Lib.run_next_end_at w1 w.heap.size { data:=#[120] } 1 ty (G1.out.heap (λh=>h) (World.iter_heap w _ 1)) (by decide)
 rw[yQ];go_wp2_with fail
 go_ret
 exact⟨rfl,((yB zA w).alloc _).zC G1.out⟩
theorem zN0:(Tryz.prog.info? 389).map (λi=>(i.zero,i.size,i.bytes))=some (some (.agg #[(0:Int),(0:Int),(0:Int),(0:Int)]),4,32):=by kernel_rfl
theorem zQ1(w:World):Calls Tryz.prog 256 #[.string { data:=#[] }] w λe w'=>(∃ad n c r l k,e=.returned (.tuple #[.slice ad n c,.agg #[.int .i64 r,(0:Int),.int .i64 l,.int .i64 k]]))/\Keeps zA w w':=by
 go_enter Tryz.func256,Tryz.ntmps256
 go_upto_region 3 with fail
 obtain⟨b3,hb3⟩:=eX w.heap.size;obtain⟨b5,hb5⟩:=eX (w.heap.size+1);have hr3:zB ((w.alloc (.cells #[(0:Int),(0:Int),(0:Int),(0:Int)] 389)).alloc (.cells #[.int .i64 (-1),(0:Int),(1:Int),(1:Int)] 389)) b3 [.int .i64 0,.int .i64 0,.int .i64 0,.int .i64 0]:=J178 _;have hr5:zB ((w.alloc (.cells #[(0:Int),(0:Int),(0:Int),(0:Int)] 389)).alloc (.cells #[.int .i64 (-1),(0:Int),(1:Int),(1:Int)] 389)) b5 [.int .i64 (-1),.int .i64 0,.int .i64 1,.int .i64 1]:=by rw[hb5];exact yK (zAH w _ _)
 have hk1:Keeps zA w ((w.alloc (.cells #[(0:Int),(0:Int),(0:Int),(0:Int)] 389)).alloc (.cells #[.int .i64 (-1),(0:Int),(1:Int),(1:Int)] 389)):=((yB _ _).alloc _).alloc _;have hne:b3≠b5:=by omega
 have HB:Hid (w.heap.size<=b3/\w.heap.size<=b5):=⟨by omega,by omega⟩;rw[<-hb5,<-hb3];generalize (w.alloc (.cells #[(0:Int),(0:Int),(0:Int),(0:Int)] 389)).alloc (.cells #[.int .i64 (-1),(0:Int),(1:Int),(1:Int)] 389)=w1 at hr3 hr5 hk1 ⊢;have R3:=yA hr3;have R5:=yA hr5;have K1:=yA hk1;clear hr3 hr5 hk1 hb3 hb5;have h1:=zM0 w1;go_wp2_with fail
 refine yY 1 ?_
 rw[yQ];go_upto_region 16 with fail
 generalize hw2:w1.iter { data:=#[] } 0=w2;have K2:Keeps zA w1 w2:=by rw[<-hw2];exact(yB zA w1).alloc _
 clear h1 hw2;have r4:=R3.out.keeps K2 (λh=>h);have rb:=R5.out.keeps K2 (λh=>h);have KE:=yA (K1.out.zC K2);obtain⟨a0,a1,a2,a3⟩:=r4.four;obtain⟨d0,d1,d2,d3⟩:=rb.four;have f0:=r4.free (k:=0) (by simp);have f1:=r4.free (k:=1) (by simp);have f2:=r4.free (k:=2) (by simp);have f3:=r4.free (k:=3) (by simp);have R4:=yA r4;clear r4 rb;clear K2;go_region
 all_goals (try go_wp2_with fail)
 have hks:Keeps (λq=>q=b3) (w2) ((((((w2).setCell ⟨b3,0,none⟩ (.int .i64 (-1))).setCell ⟨b3,1,none⟩ (.int .i64 0)).setCell ⟨b3,2,none⟩ (.int .i64 1)).setCell ⟨b3,3,none⟩ (.int .i64 1)).drew):=(((((yB (λq=>q=b3) (w2)).setCell (p:=⟨b3,0,none⟩) (λ_=>rfl) _).setCell (p:=⟨b3,1,none⟩) (λ_=>rfl) _).setCell (p:=⟨b3,2,none⟩) (λ_=>rfl) _).setCell (p:=⟨b3,3,none⟩) (λ_=>rfl) _).drew;have hrow:zB ((((((w2).setCell ⟨b3,0,none⟩ (.int .i64 (-1))).setCell ⟨b3,1,none⟩ (.int .i64 0)).setCell ⟨b3,2,none⟩ (.int .i64 1)).setCell ⟨b3,3,none⟩ (.int .i64 1)).drew) b3 [.int .i64 (-1),.int .i64 0,.int .i64 1,.int .i64 1]:=((((R4.out.set 0 (by simp) _).set 1 (by simp) _).set 2 (by simp) _).set 3 (by simp) _).keeps (S:=zA) ((yB _ _).drew) (λh=>h);generalize (((((w2).setCell ⟨b3,0,none⟩ (.int .i64 (-1))).setCell ⟨b3,1,none⟩ (.int .i64 0)).setCell ⟨b3,2,none⟩ (.int .i64 1)).setCell ⟨b3,3,none⟩ (.int .i64 1)).drew=wE at hrow hks ⊢;refine xK (v:=.tuple #[.slice none 0 0,.agg #[.int .i64 (-1),(0:Int),(1:Int),(1:Int)]]) (J216 _) rfl ?_
 exact J120 _
theorem zQ5(w:World):Calls Tryz.prog 256 #[.string { data:=#[120] }] w λe w'=>(∃ad n c r l k,e=.returned (.tuple #[.slice ad n c,.agg #[.int .i64 r,(1:Int),.int .i64 l,.int .i64 k]]))/\Keeps zA w w':=by
 go_enter Tryz.func256,Tryz.ntmps256
 go_upto_region 3 with fail
 obtain⟨b3,hb3⟩:=eX w.heap.size;obtain⟨b5,hb5⟩:=eX (w.heap.size+1);have hr3:zB ((w.alloc (.cells #[(0:Int),(0:Int),(0:Int),(0:Int)] 389)).alloc (.cells #[.int .i64 (-1),(0:Int),(1:Int),(1:Int)] 389)) b3 [.int .i64 0,.int .i64 0,.int .i64 0,.int .i64 0]:=J178 _;have hr5:zB ((w.alloc (.cells #[(0:Int),(0:Int),(0:Int),(0:Int)] 389)).alloc (.cells #[.int .i64 (-1),(0:Int),(1:Int),(1:Int)] 389)) b5 [.int .i64 (-1),.int .i64 0,.int .i64 1,.int .i64 1]:=by rw[hb5];exact yK (zAH w _ _)
 have hk1:Keeps zA w ((w.alloc (.cells #[(0:Int),(0:Int),(0:Int),(0:Int)] 389)).alloc (.cells #[.int .i64 (-1),(0:Int),(1:Int),(1:Int)] 389)):=((yB _ _).alloc _).alloc _;have hne:b3≠b5:=by omega
 have HB:Hid (w.heap.size<=b3/\w.heap.size<=b5):=⟨by omega,by omega⟩;rw[<-hb5,<-hb3];generalize (w.alloc (.cells #[(0:Int),(0:Int),(0:Int),(0:Int)] 389)).alloc (.cells #[.int .i64 (-1),(0:Int),(1:Int),(1:Int)] 389)=w1 at hr3 hr5 hk1 ⊢;have R3:=yA hr3;have R5:=yA hr5;have K1:=yA hk1;clear hr3 hr5 hk1 hb3 hb5;have h1:=zH5 w1;obtain⟨j0,hj0,hz0,hz1,hz2⟩:=info_parts zN0;obtain⟨d0,d1,d2,d3⟩:=R5.out.four;have f0:=R5.out.free (k:=0) (by simp);go_wp2_with fail
 refine yY 2 ?_
 rw[yQ];go_upto_region 8 with fail
 obtain⟨w2,hw2⟩:∃z,z=w1.iter { data:=#[120] } 1:=⟨_,rfl⟩
 obtain⟨b10,hb10⟩:=eX w1.heap.size;have hk2:Keeps zA w1 w2:=by rw[hw2];exact(yB zA w1).alloc _
 have hi2:w2.heap[b10]?=some (.stringIter { data:=#[120] } 1):=by rw[hw2,hb10];exact World.iter_heap w1 _ 1
 have hb5:b5<b10:=by rw[hb10];exact R5.out.lt (by simp)
 have hb3:b3<b10:=by rw[hb10];exact R3.out.lt (by simp)
 rw[<-hw2,<-hb10];have R3':Hid (zB w2 b3 [(0:Int),(0:Int),(0:Int),(0:Int)]):=R3.out.keeps hk2 (λh=>h);have R5':Hid (zB w2 b5 [.int .i64 (-1),(0:Int),(1:Int),(1:Int)]):=R5.out.keeps hk2 (λh=>h);have KW:Hid (Keeps zA w w2):=K1.out.zC hk2;clear h1 hw2 hb10 hk2 R3 R5 K1 d0 d1 d2 d3 f0;obtain⟨d0,d1,d2,d3⟩:=R5'.out.four;have f0:=R5'.out.free (k:=0) (by simp);have HI2:=yA hi2;clear hi2;go_upto_region 9 with fail
 have r5:zB (w2.setCell ⟨b5,0,none⟩ (.int .i64 120)) b5 [.int .i64 120,.int .i64 0,.int .i64 1,.int .i64 1]:=R5'.out.set 0 (by simp) _;have k3:Keeps (λq=>q=b5) w2 (w2.setCell ⟨b5,0,none⟩ (.int .i64 120)):=(yB (λq=>q=b5) w2).setCell (p:=⟨b5,0,none⟩) (λ_=>rfl) _;generalize w2.setCell ⟨b5,0,none⟩ (.int .i64 120)=w3 at r5 k3 ⊢;clear d0 d1 d2 d3 f0;obtain⟨d0,d1,d2,d3⟩:=r5.four;have R5:=yA r5;have K3:=yA k3;clear r5 k3;go_upto_region 10 with(at_builtin;refine zI _ (by rfl) _ _ 348 (by rfl) 0 389 j0 _ 4 32 Tryz.underlying348 hj0 hz0 hz1 hz2 rfl (by decide) (.slice none 0 0) 0 [] (by rfl) (World.ownsRow_nil _ _ _ _) (.slice (some ⟨w3.heap.size,0,none⟩) 1 1) 1 [.int .i64 120,.int .i64 0,.int .i64 1,.int .i64 1] (by rfl) (zB.src (yK (yG w3 _))) rfl (J172 _) (by unfold maxLen;omega) (by omega) (yF _) ?_;intro da2 dc2 w4 ha;have k4:=xD ha ((yB zA w3).alloc _) (λq e _=>by exact J170 _);have K4:=yA k4;clear ha k4)
 have R54:Hid (zB w4 b5 [(120:Int),(0:Int),(1:Int),(1:Int)]):=R5.out.keeps K4.out (λh=>h);have K24:Hid (Keeps (λq=>q=b5) w2 w4):=K3.out.trans K4.out (λ_ _ h=>False.elim h);clear d0 d1 d2 d3 K3 K4 R5 R5';refine zW 6 (by kernel_rfl) (by kernel_rfl) (Keeps zA) (yB zA) (λa b c h h'=>xJ h h') (zAz [some (.pointer (some ⟨b5,1,none⟩)),some (.int .i64 0),some (.int .i32 120),some (.int .i64 1),some (.int .i64 1),some (.pointer (some ⟨b5,1,none⟩))] (λ_ _ _=>False)) (vQ (λj v W W' h hk=>h)) ?_ ?_
 ·intro q oo hq ho vs W Q' hR0 hd hK
  have hR:Keeps zA w4 W:=((yB zA w4).drew).zC hR0;obtain⟨d0,d1,d2,d3⟩:=(R54.out.keeps hR (λh=>h)).four;clear hR hR0;rcases (show q=0\/q=1\/q=2\/q=3\/q=4\/q=5 by omega) with rfl|rfl|rfl|rfl|rfl|rfl
  all_goals (simp only[yC,yD,yN] at ho;subst ho;simp only[zJ,yC,yD,yO,Option.bind,Act.put,yE,yM,yJ] at hK ⊢;clear hq)
  ·exact J2 _
  ·exact J132 _
  ·exact J2 _
  ·have e2:vs 2=_:=hd 2 (by kernel_rfl)
   rw[e2] at hK ⊢;clear hd;go_wp2_with (go_at_call 287;refine(zMH _).mono ?_;rintro e W1 ⟨rfl,g1⟩)
   exact hK _ _ g1 rfl
  ·have e1:vs 1=_:=hd 1 (by kernel_rfl)
   have e3:vs 3=_:=hd 3 (by kernel_rfl);rw[e1,e3] at hK ⊢;exact J2 _
  ·exact J2 _
 ·intro vs W hR0 hF
  have hR:Keeps zA w4 W:=((yB zA w4).drew).zC hR0;have e4:vs 4=_:=hF 4 (by decide);have e5:vs 5=_:=hF 5 (by decide);have r5:=R54.out.keeps hR (λh=>h);have K2W:Hid (Keeps (λq=>q=b5) w2 W):=K24.out.trans hR (λ_ _ h=>False.elim h);simp only[zJ,yC,yD,yO,Option.bind,Act.put,yE,yM,yJ,yZ,yU];rw[e4,e5];clear hF e4 e5;generalize vs 0=y0;generalize vs 1=y1;generalize vs 2=y2;generalize vs 3=y3;obtain⟨d0,d1,d2,d3⟩:=r5.four;have f1:=r5.free (k:=1) (by simp);have f3:=r5.free (k:=3) (by simp);have f0:=r5.free (k:=0) (by simp);have R5:=yA r5;clear hR hR0 r5;go_wp2_with fail
  have r5:zB (((W.setCell ⟨b5,1,none⟩ (.int .i64 1)).setCell ⟨b5,3,none⟩ (.int .i64 2)).setCell ⟨b5,0,none⟩ (.int .i64 (-1))) b5 [.int .i64 (-1),.int .i64 1,.int .i64 1,.int .i64 2]:=((R5.out.set 1 (by simp) _).set 3 (by simp) _).set 0 (by simp) _;have k5:Keeps (λq=>q=b5) W (((W.setCell ⟨b5,1,none⟩ (.int .i64 1)).setCell ⟨b5,3,none⟩ (.int .i64 2)).setCell ⟨b5,0,none⟩ (.int .i64 (-1))):=(((yB (λq=>q=b5) W).setCell (p:=⟨b5,1,none⟩) (λ_=>rfl) _).setCell (p:=⟨b5,3,none⟩) (λ_=>rfl) _).setCell (p:=⟨b5,0,none⟩) (λ_=>rfl) _;generalize ((W.setCell ⟨b5,1,none⟩ (.int .i64 1)).setCell ⟨b5,3,none⟩ (.int .i64 2)).setCell ⟨b5,0,none⟩ (.int .i64 (-1))=w6 at r5 k5 ⊢;have k26:Keeps (λq=>q=b5) w2 w6:=K2W.out.trans k5 (λ_ _ h=>h)
  have h2:∀ty,(Instr.next (.pointer (some ⟨b10,0,none⟩)) true ty).run Tryz.prog w6=.ok (.tuple #[false]) w6:=λty =>
   Lib.run_next_end_at w6 b10 { data:=#[120] } 1 ty (k26.heap (λe=>by have e':b10=b5:=e;omega) HI2.out) (by decide)
  have R4:Hid (zB w6 b3 [(0:Int),(0:Int),(0:Int),(0:Int)]):=R3'.out.keeps k26 (λe=>hne e);have KE:Hid (Keeps zA w w6):=KW.out.trans k26 (λq hq e=>by have e':q=b5:=e;have:=HB.out;omega);clear d0 d1 d2 d3 f0 f1 f3 R5 k5 k26;obtain⟨d0,d1,d2,d3⟩:=r5.four;obtain⟨a0,a1,a2,a3⟩:=R4.out.four;have f0:=R4.out.free (k:=0) (by simp);have f1:=R4.out.free (k:=1) (by simp);have f2:=R4.out.free (k:=2) (by simp);have f3:=R4.out.free (k:=3) (by simp);clear r5;rw[yQ];go_upto_region 16 with fail
  go_region
  all_goals (try go_wp2_with fail)
  have hks:Keeps (λq=>q=b3) (w6) ((((((w6).setCell ⟨b3,0,none⟩ (.int .i64 (-1))).setCell ⟨b3,1,none⟩ (.int .i64 1)).setCell ⟨b3,2,none⟩ (.int .i64 1)).setCell ⟨b3,3,none⟩ (.int .i64 2)).drew):=(((((yB (λq=>q=b3) (w6)).setCell (p:=⟨b3,0,none⟩) (λ_=>rfl) _).setCell (p:=⟨b3,1,none⟩) (λ_=>rfl) _).setCell (p:=⟨b3,2,none⟩) (λ_=>rfl) _).setCell (p:=⟨b3,3,none⟩) (λ_=>rfl) _).drew;have hrow:zB ((((((w6).setCell ⟨b3,0,none⟩ (.int .i64 (-1))).setCell ⟨b3,1,none⟩ (.int .i64 1)).setCell ⟨b3,2,none⟩ (.int .i64 1)).setCell ⟨b3,3,none⟩ (.int .i64 2)).drew) b3 [.int .i64 (-1),.int .i64 1,.int .i64 1,.int .i64 2]:=((((R4.out.set 0 (by simp) _).set 1 (by simp) _).set 2 (by simp) _).set 3 (by simp) _).keeps (S:=zA) ((yB _ _).drew) (λh=>h);generalize (((((w6).setCell ⟨b3,0,none⟩ (.int .i64 (-1))).setCell ⟨b3,1,none⟩ (.int .i64 1)).setCell ⟨b3,2,none⟩ (.int .i64 1)).setCell ⟨b3,3,none⟩ (.int .i64 2)).drew=wE at hrow hks ⊢;refine xK (v:=.tuple #[.slice da2 1 dc2,.agg #[.int .i64 (-1),(1:Int),(1:Int),(2:Int)]]) (J216 _) rfl ?_
  exact J120 _
def zK8(s:ByteArray):Prop:=∀w:World,Calls Tryz.prog 224 #[s] w λe w'=>(∃ad n c,e=.returned (.tuple #[.slice ad n c,.agg #[(0:Int),(0:Int),.string { data:=#[] }]]))/\Keeps zA w w'
theorem zOy:zK8 { data:=#[] }:=by
 intro w
 go_enter Tryz.func224,Tryz.ntmps224
 go_upto_region 1 with fail
 obtain⟨b3,hb3⟩:=eX w.heap.size;have hr3:zB (w.alloc (.cells #[(0:Int),(0:Int),.string { data:=#[] }] 287)) b3 [.int .i64 0,.int .i64 0,.string { data:=#[] }]:=J186 _;have hk1:Keeps zA w (w.alloc (.cells #[(0:Int),(0:Int),.string { data:=#[] }] 287)):=(yB _ _).alloc _;have HB:Hid (w.heap.size<=b3):=by show _<=_;omega
 rw[<-hb3];generalize w.alloc (.cells #[(0:Int),(0:Int),.string { data:=#[] }] 287)=w1 at hr3 hk1 ⊢;have R3:=yA hr3;have K1:=yA hk1;clear hr3 hk1 hb3;go_upto_region 4 with(go_at_call 256;refine(zQ1 _).mono ?_;rintro e w2 ⟨⟨ad,n,c,r,l,k,rfl⟩,g1⟩;have G1:=yA g1;clear g1)
 obtain⟨b5,hb5⟩:=eX w2.heap.size;have r5:zB (w2.alloc (.cells #[r,(0:Int),l,k] 389)) b5 [.int .i64 r,.int .i64 0,.int .i64 l,.int .i64 k]:=J205 _;have k3:Keeps zA w1 (w2.alloc (.cells #[r,(0:Int),l,k] 389)):=G1.out.alloc _;rw[<-hb5];generalize w2.alloc (.cells #[r,(0:Int),l,k] 389)=w3 at r5 k3 ⊢;exact J12 _
theorem zPm:zK8 { data:=#[120] }:=by
 intro w
 go_enter Tryz.func224,Tryz.ntmps224
 go_upto_region 1 with fail
 obtain⟨b3,hb3⟩:=eX w.heap.size;have hr3:zB (w.alloc (.cells #[(0:Int),(0:Int),.string { data:=#[] }] 287)) b3 [.int .i64 0,.int .i64 0,.string { data:=#[] }]:=J186 _;have hk1:Keeps zA w (w.alloc (.cells #[(0:Int),(0:Int),.string { data:=#[] }] 287)):=(yB _ _).alloc _;have HB:Hid (w.heap.size<=b3):=by show _<=_;omega
 rw[<-hb3];generalize w.alloc (.cells #[(0:Int),(0:Int),.string { data:=#[] }] 287)=w1 at hr3 hk1 ⊢;have R3:=yA hr3;have K1:=yA hk1;clear hr3 hk1 hb3;go_upto_region 4 with(go_at_call 256;refine(zQ5 _).mono ?_;rintro e w2 ⟨⟨ad,n,c,r,l,k,rfl⟩,g1⟩;have G1:=yA g1;clear g1)
 obtain⟨b5,hb5⟩:=eX w2.heap.size;have r5:zB (w2.alloc (.cells #[r,(1:Int),l,k] 389)) b5 [.int .i64 r,.int .i64 1,.int .i64 l,.int .i64 k]:=J205 _;have k3:Keeps zA w1 (w2.alloc (.cells #[r,(1:Int),l,k] 389)):=G1.out.alloc _;rw[<-hb5];generalize w2.alloc (.cells #[r,(1:Int),l,k] 389)=w3 at r5 k3 ⊢;exact J12 _
def words:List Value:=[.string { data:=#[97,100,100] },.string { data:=#[97,115,115,101,114,116] },.string { data:=#[99,101,108,108] },.string { data:=#[101,108,115,101] },.string { data:=#[105,102] },.string { data:=#[106,111,105,110] },.string { data:=#[108,111,99,107] },.string { data:=#[109,117,116,101,120] },.string { data:=#[114,101,112,101,97,116] },.string { data:=#[115,116,97,114,116] },.string { data:=#[116,104,114,101,97,100] },.string { data:=#[117,110,108,111,99,107] }]
theorem zMJ(w:World):Calls Tryz.prog 265 #[] w λe w'=>∃g,e=.returned (.slice (some ⟨g,0,none⟩) 12 12)/\zB w' g words/\Keeps zA w w':=by
 go_enter Tryz.func265,Tryz.ntmps265
 go_wp2_with fail
 go_ret
 exact⟨_,rfl,yK (yG w _),(yB _ _).alloc _⟩
theorem zPb(w:World)(g:Nat)(h:zB w g words):Calls Tryz.prog 293 #[.slice (some ⟨g,0,none⟩) 12 12,.string { data:=#[120] }] w λe w'=>e=.returned (.int .i64 (-1))/\Keeps zA w w':=by
 have c0:=h.cell (k:=0) (v:=.string { data:=#[97,100,100] }) rfl;have c1:=h.cell (k:=1) (v:=.string { data:=#[97,115,115,101,114,116] }) rfl;have c2:=h.cell (k:=2) (v:=.string { data:=#[99,101,108,108] }) rfl;have c3:=h.cell (k:=3) (v:=.string { data:=#[101,108,115,101] }) rfl;have c4:=h.cell (k:=4) (v:=.string { data:=#[105,102] }) rfl;have c5:=h.cell (k:=5) (v:=.string { data:=#[106,111,105,110] }) rfl;have c6:=h.cell (k:=6) (v:=.string { data:=#[108,111,99,107] }) rfl;have c7:=h.cell (k:=7) (v:=.string { data:=#[109,117,116,101,120] }) rfl;have c8:=h.cell (k:=8) (v:=.string { data:=#[114,101,112,101,97,116] }) rfl;have c9:=h.cell (k:=9) (v:=.string { data:=#[115,116,97,114,116] }) rfl;have c10:=h.cell (k:=10) (v:=.string { data:=#[116,104,114,101,97,100] }) rfl;have c11:=h.cell (k:=11) (v:=.string { data:=#[117,110,108,111,99,107] }) rfl;clear h;go_enter Tryz.func293,Tryz.ntmps293
 go_wp2_with fail
 refine yY 13 ?_
 iterate 13 (rw[yQ];go_wp2_with fail)
 go_ret
 exact⟨rfl,yB _ _⟩
theorem zKJ(w:World)(g:Nat)(h:zB w g words):Calls Tryz.prog 264 #[.slice (some ⟨g,0,none⟩) 12 12,.string { data:=#[120] }] w λe w'=>e=.returned false/\Keeps zA w w':=by
 have HI:=yA (zPb w g h);clear h;go_enter Tryz.func264,Tryz.ntmps264
 go_wp2_with (go_at_call 293;refine HI.out.mono ?_;rintro e w1 ⟨rfl,g1⟩;have G1:=yA g1;clear g1)
 go_ret
 exact⟨rfl,G1.out⟩
theorem zIc(w:World):Calls Tryz.prog 266 #[.string { data:=#[120] }] w λe w'=>e=.returned (.int .i64 1)/\Keeps zA w w':=by
 have h1:=zH5 w;have h2:=zPW w;go_enter Tryz.func266,Tryz.ntmps266
 go_wp2_with fail
 refine yY 2 ?_
 rw[yQ];go_wp2_with fail
 rw[yQ];go_wp2_with fail
 go_ret
 exact⟨rfl,(yB _ _).alloc _⟩
theorem zPf(w:World):Calls Tryz.prog 226 #[.string { data:=#[120] }] w λe w'=>e=.returned (.tuple #[.agg #[(1:Int),.string { data:=#[120] },(0:Int),(0:Int)],(0:Int)])/\Keeps zA w w':=by
 go_enter Tryz.func226,Tryz.ntmps226
 go_upto_region 1 with fail
 obtain⟨b2,hb2⟩:=eX w.heap.size;have hr2:zB (w.alloc (.cells #[(0:Int),.string { data:=#[] },(0:Int),(0:Int)] 291)) b2 [.int .i64 0,.string { data:=#[] },.int .i64 0,.int .i64 0]:=by rw[hb2];exact yK (yG w _)
 have hk1:Keeps zA w (w.alloc (.cells #[(0:Int),.string { data:=#[] },(0:Int),(0:Int)] 291)):=(yB _ _).alloc _;have HB:Hid (w.heap.size<=b2):=by show _<=_;omega
 rw[<-hb2];generalize w.alloc (.cells #[(0:Int),.string { data:=#[] },(0:Int),(0:Int)] 291)=w1 at hr2 hk1 ⊢;have R2:=yA hr2;have K1:=yA hk1;clear hr2 hk1 hb2;go_upto_region 2 with(go_at_call 258;refine(zN2 _).mono ?_;rintro e w2 ⟨rfl,g1⟩;have G1:=yA g1;clear g1)
 go_upto_region 7 with(go_at_call 259;refine(zNp _).mono ?_;rintro e w3 ⟨rfl,g1⟩;have G2:=yA g1;clear g1)
 go_upto_region 8 with(go_at_call 261;refine(zQ9 _).mono ?_;rintro e w4 ⟨rfl,g1⟩;have G3:=yA g1;clear g1)
 obtain⟨b7,hb7⟩:=eX w4.heap.size;have r7:zB (w4.alloc (.cells #[(1:Int),.string { data:=#[120] },(0:Int),(0:Int)] 291)) b7 [.int .i64 1,.string { data:=#[120] },.int .i64 0,.int .i64 0]:=by rw[hb7];exact yK (yG w4 _)
 have k5:Keeps zA w1 (w4.alloc (.cells #[(1:Int),.string { data:=#[120] },(0:Int),(0:Int)] 291)):=(G1.out.zC (G2.out.zC G3.out)).alloc _;rw[<-hb7];generalize w4.alloc (.cells #[(1:Int),.string { data:=#[120] },(0:Int),(0:Int)] 291)=w5 at r7 k5 ⊢;have R7:=yA r7;have K5:=yA k5;clear r7 k5 hb7 G1 G2 G3;go_upto_region 13 with(go_at_call 262;refine(zPZ _).mono ?_;rintro e w6 ⟨rfl,g1⟩;have G1:=yA g1;clear g1)
 refine zW 4 (by kernel_rfl) (by kernel_rfl) (Keeps zA) (yB zA) (λa b c h h'=>xJ h h') (zAz [none,some (.pointer (some ⟨b7,1,none⟩)),some (.string { data:=#[120] }),some (.bool false)] (λ_ v W=>∃g,v=.slice (some ⟨g,0,none⟩) 12 12/\zB W g words)) (vQ (λj v W W' h hk=>by obtain⟨g,e,h1⟩:=h;exact⟨g,e,h1.keeps hk (λh=>h)⟩)) ?_ ?_
 ·intro q oo hq ho vs W Q' hR0 hd hK
  have hR:Keeps zA w5 W:=G1.out.zC (((yB zA w6).drew).zC hR0);obtain⟨d0,d1,d2,d3⟩:=(R7.out.keeps hR (λh=>h)).four;clear hR hR0;rcases (show q=0\/q=1\/q=2\/q=3 by omega) with rfl|rfl|rfl|rfl
  all_goals (simp only[yC,yD,yN] at ho;subst ho;simp only[zJ,yC,yD,yO,Option.bind,Act.put,yE,yM,yJ] at hK ⊢;clear hq)
  ·clear hd
   go_wp2_with (go_at_call 265;refine(zMJ _).mono ?_;rintro e W1 ⟨g,rfl,h1,g1⟩)
   exact hK _ _ g1 ⟨g,rfl,h1⟩
  ·exact J2 _
  ·exact J137 _
  ·obtain⟨g,e0,hg⟩:=(hd 0 (by kernel_rfl):∃g,vs 0=.slice (some ⟨g,0,none⟩) 12 12/\zB W g words)
   have HG:=yA hg;have e2:vs 2=_:=hd 2 (by kernel_rfl);rw[e0,e2] at hK ⊢;clear hg;clear hd;go_wp2_with (go_at_call 264;refine(zKJ _ _ HG.out).mono ?_;rintro e W1 ⟨rfl,g1⟩)
   exact hK _ _ g1 rfl
 ·intro vs W hR0 hF
  have hR:Keeps zA w5 W:=G1.out.zC (((yB zA w6).drew).zC hR0);have e3:vs 3=_:=hF 3 (by decide);have r7:=R7.out.keeps hR (λh=>h);have r2:=R2.out.keeps (K5.out.zC hR) (λh=>h);have KW:Hid (Keeps zA w W):=K1.out.zC (K5.out.zC hR);simp only[zJ,yC,yD,yO,Option.bind,Act.put,yE,yM,yJ,yZ,yU];rw[e3];clear hF e3;generalize vs 0=y0;generalize vs 1=y1;generalize vs 2=y2;obtain⟨d0,d1,d2,d3⟩:=r7.four;have R7W:=yA r7;have R2W:=yA r2;clear hR hR0 r2 r7;go_upto_region 17 with(go_at_call 266;refine(zIc _).mono ?_;rintro e w8 ⟨rfl,g1⟩;have G8:=yA g1;clear g1)
  have r7:=R7W.out.keeps G8.out (λh=>h);have r2:=R2W.out.keeps G8.out (λh=>h);clear d0 d1 d2 d3;obtain⟨d0,d1,d2,d3⟩:=r7.four;obtain⟨a0,a1,a2,a3⟩:=r2.four;have f0:=r2.free (k:=0) (by simp);have f1:=r2.free (k:=1) (by simp);have f2:=r2.free (k:=2) (by simp);have f3:=r2.free (k:=3) (by simp);have R2X:=yA r2;clear r7 r2;go_wp2_with fail
  have hks:Keeps (λq=>q=b2) w8 ((((w8.setCell ⟨b2,0,none⟩ (.int .i64 1)).setCell ⟨b2,1,none⟩ (.string { data:=#[120] })).setCell ⟨b2,2,none⟩ (.int .i64 0)).setCell ⟨b2,3,none⟩ (.int .i64 0)):=((((yB (λq=>q=b2) w8).setCell (p:=⟨b2,0,none⟩) (λ_=>rfl) _).setCell (p:=⟨b2,1,none⟩) (λ_=>rfl) _).setCell (p:=⟨b2,2,none⟩) (λ_=>rfl) _).setCell (p:=⟨b2,3,none⟩) (λ_=>rfl) _;have hrow:zB ((((w8.setCell ⟨b2,0,none⟩ (.int .i64 1)).setCell ⟨b2,1,none⟩ (.string { data:=#[120] })).setCell ⟨b2,2,none⟩ (.int .i64 0)).setCell ⟨b2,3,none⟩ (.int .i64 0)) b2 [.int .i64 1,.string { data:=#[120] },.int .i64 0,.int .i64 0]:=(((R2X.out.set 0 (by simp) _).set 1 (by simp) _).set 2 (by simp) _).set 3 (by simp) _;generalize (((w8.setCell ⟨b2,0,none⟩ (.int .i64 1)).setCell ⟨b2,1,none⟩ (.string { data:=#[120] })).setCell ⟨b2,2,none⟩ (.int .i64 0)).setCell ⟨b2,3,none⟩ (.int .i64 0)=wE at hrow hks ⊢;refine xK (v:=.tuple #[.agg #[(1:Int),.string { data:=#[120] },(0:Int),(0:Int)],(0:Int)]) (by simp[results,Tryz.results226,go_sem,hrow.cell (k:=0) rfl,hrow.cell (k:=1) rfl,hrow.cell (k:=2) rfl,hrow.cell (k:=3) rfl]) rfl ?_
  exact⟨rfl,(KW.out.zC G8.out).trans hks (λq hq e=>by have e':q=b2:=e;have:=HB.out;omega)⟩
