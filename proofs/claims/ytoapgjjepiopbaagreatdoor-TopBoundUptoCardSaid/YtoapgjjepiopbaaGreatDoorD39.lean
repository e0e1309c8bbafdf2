/- Layer D: texts joined. -/
import Derived.Test.YtoapgjjepiopbaaGreatDoorD38
set_option linter.all false
set_option maxHeartbeats 4000000
set_option maxRecDepth 8000
namespace Go.Proofs.YtoapgjjepiopbaaGreatDoor
open Go.RowKit
abbrev kM:=@Go.IntWalk.wrap64_in
theorem J29(P:Prop) (h:P:=by
 go_upto_region 7 with(go_at_call 161;refine(H0.out _ _ _ _ HS0.out.1 (HX0'.out.keeps HS0.out.2.keeps (λq hq=>(HFF.out q hq).2)) (HFF.out.run HS0.out.2) (by omega)).mono ?_;rintro e w2 ⟨v1,t1,rfl,l1,u1,h2,r2⟩;have HS1:=yA (And.intro h2 (zV.trans hlt1 HS0.out.2 r2));clear y d0 k1 h2 r2;have y:=(HR1.out.keeps HS1.out.2.keeps hb1).zBF;have k1:=zF w2)
 go_wp2_with (go_at_call 71;refine(zCG HS1.out.1 ⟨_,_,_,_⟩ [k] _ (by omega) (by simp)).mono ?_;rintro e w9 ⟨v9,rfl,h2,r2⟩;have H2:=yA (And.intro h2 (zV.pre HK1.out (zV.trans hlt1 HS1.out.2 r2)));clear h2 r2 y k1)
 go_returns
 exact⟨v9,t1+1,rfl,by omega,by omega,H2.out⟩):P:=h
theorem J109(P:Prop)(h:P:=by rw[e0,kM (a.toNat:Int) (by omega),kM (a.toNat:Int) (by omega),kM _ (by omega)]):P:=h
theorem J181(P:Prop)(h:P:=by obtain⟨g,e,h0⟩:=h;exact⟨g,e,h0.keeps hk (λh=>h)⟩):P:=h
theorem zQg(w:World)(F:Nat->Prop):zAl w F [] none:=⟨λ_=>[],λi hi=>absurd hi (Nat.not_lt_zero _),λi y e=>by simp at e⟩
theorem zRg:newR ⟨[],0,[⟨0,[]⟩]⟩=0:=by decide
theorem zNP:whole ⟨[],0,[⟨0,[]⟩]⟩ []=([⟨0,9,0,0,0⟩],⟨[],[],[⟨3,[],[]⟩]⟩):=by rfl
theorem zRa{w:World}{F:Nat->Prop}{th:Nat}(ht:zB w th [(0:Int),.slice none 0 0])(f:F th)(hF:∀k,F k->k<w.heap.size):zC8 w F [] [⟨0,[]⟩] none (some ⟨th,0,none⟩):=by
 refine⟨λi hi=>absurd hi (Nat.not_lt_zero _),λi hi=>?_,hF,λb hb=>?_,by simp[zAj,Ac.szL],by decide,by simp⟩
 ·have hi0:i=0:=by simpa using hi
  subst hi0;exact⟨th,0,none,0,rfl,f,ht.cell (k:=0) rfl,ht.cell (k:=1) rfl,zQg _ _⟩
 ·obtain rfl:b=⟨0,[]⟩:=by simpa using hb
  simp[Ac.zBe]
section
variable {cs:List Int} {mu:Int} {bs:List Bd} {w:World} {F:Nat->Prop} {uca uta:Option Addr} {ucc utc:Nat}
theorem zC8.zPk(h:zC8 w F cs bs uca uta):Calls Tryz.prog 7 #[.agg #[.slice uca cs.length ucc,mu,.slice uta bs.length utc]] w λe w'=>e=.returned (.int .i64 (newR ⟨cs,mu,bs⟩))/\Keeps zA w w':=
 zG3 cs mu bs w F uca uta ucc utc h.nums h.bds h.low h.sz h.l1 h.l2
end
theorem zNl(w:World)(a:UInt8):Calls Tryz.prog 9 #[.string ⟨#[a]⟩] w λe w'=>e=.returned (.int .i64 ((a.toNat:Int)-48))/\Keeps zA w w':=by
 have hu:a.toNat<256:=a.toNat_lt;have hz:(ByteArray.mk #[a]).size=1:=rfl;go_enter Tryz.func9,Tryz.ntmps9
 go_wp2_with fail
 go_loopw [4,3] (λi v wr=>(i=.int .i64 0/\v=.int .i64 0/\Hid (Keeps zA w wr))\/(i=.int .i64 1/\v=.int .i64 ((a.toNat:Int)-48)/\Hid (Keeps zA w wr))) (λi _ _=>1-(intOf i).toNat)
 case atStart=>exact .inl ⟨rfl,rfl,yB _ _⟩
 case round =>
  rcases hrel with⟨rfl,rfl,hk⟩|⟨rfl,rfl,hk⟩
  ·go_wp2_with fail
   have e:wrap64 (wrap64 (wrap64 (({ data:=#[a] }:ByteArray)[0].toNat:Int))-48)=(a.toNat:Int)-48:=by
    have e0:(({ data:=#[a] }:ByteArray)[0])=a:=rfl;exact J109 _
   exact⟨.inr ⟨rfl,congrArg _ e,hk⟩,by simp[intOf]⟩
  ·go_wp2_with fail
   go_ret
   exact⟨rfl,hk.out⟩
theorem zMs(w:World)(a b:UInt8):Calls Tryz.prog 9 #[.string ⟨#[a,b]⟩] w λe w'=>e=.returned (.int .i64 (10*((a.toNat:Int)-48)+b.toNat-48))/\Keeps zA w w':=by
 have hu:a.toNat<256:=a.toNat_lt;have hv:b.toNat<256:=b.toNat_lt;have hz:(ByteArray.mk #[a,b]).size=2:=rfl;go_enter Tryz.func9,Tryz.ntmps9
 go_wp2_with fail
 go_loopw [4,3] (λi v wr=>(i=.int .i64 0/\v=.int .i64 0/\Hid (Keeps zA w wr))\/(i=.int .i64 1/\v=.int .i64 ((a.toNat:Int)-48)/\Hid (Keeps zA w wr))\/(i=.int .i64 2/\v=.int .i64 (10*((a.toNat:Int)-48)+b.toNat-48)/\Hid (Keeps zA w wr))) (λi _ _=>2-(intOf i).toNat)
 case atStart=>exact .inl ⟨rfl,rfl,yB _ _⟩
 case round =>
  rcases hrel with⟨rfl,rfl,hk⟩|⟨rfl,rfl,hk⟩|⟨rfl,rfl,hk⟩
  ·go_wp2_with fail
   have e:wrap64 (wrap64 (wrap64 (({ data:=#[a,b] }:ByteArray)[0].toNat:Int))-48)=(a.toNat:Int)-48:=by
    have e0:(({ data:=#[a,b] }:ByteArray)[0])=a:=rfl;exact J109 _
   exact⟨.inr (.inl ⟨rfl,congrArg _ e,hk⟩),by simp[intOf]⟩
  ·go_wp2_with fail
   have e:wrap64 (wrap64 ((10:Int)*((a.toNat:Int)-(48:Int))+wrap64 (({ data:=#[a,b] }:ByteArray)[1].toNat:Int))-48)=10*((a.toNat:Int)-48)+b.toNat-48:=by
    have e0:(({ data:=#[a,b] }:ByteArray)[1])=b:=rfl;rw[e0,kM (b.toNat:Int) (by omega),kM ((10:Int)*((a.toNat:Int)-48)+b.toNat) (by omega),kM _ (by omega)]
   exact⟨.inr (.inr ⟨rfl,congrArg _ e,hk⟩),by simp[intOf]⟩
  ·go_wp2_with fail
   go_ret
   exact⟨rfl,hk.out⟩
theorem zHN{n:Nat}(h:n<10):zAs n=[UInt8.ofNat (48+n)]:=by
 unfold zAs;by_cases h0:n=0
 ·subst h0;rfl
 ·rw[if_neg h0,zBZ (by decide) h0,show n / 10=0 by omega,zAp,show n % 10=n by omega];rfl
theorem zHM{n:Nat}(h:10<=n)(h2:n<100):zAs n=[UInt8.ofNat (48+n / 10),UInt8.ofNat (48+n % 10)]:=by
 unfold zAs;have h0:n≠0:=by omega
 have h1:n / 10≠0:=by omega
 rw[if_neg h0,zBZ (by decide) h0,zBZ (by decide) h1,show n / 10 / 10=0 by omega,zAp,show n / 10 % 10=n / 10 by omega];rfl
theorem zNJ(w:World){n:Nat}(h:n<100):Calls Tryz.prog 9 #[.string (tell true n)] w λe w'=>e=.returned n/\Keeps zA w w':=by
 have hu:∀k:Nat,k<10->((UInt8.ofNat (48+k)).toNat:Int)=48+k:=λk hk=>by
  rw[UInt8.toNat_ofNat_of_lt' (by show 48+k<256;omega)];omega
 by_cases h1:n<10
 ·have e:tell true n=⟨#[UInt8.ofNat (48+n)]⟩:=by unfold tell;rw[zHN h1];rfl
  rw[e];refine(zNl w _).mono ?_
  rintro e w' ⟨rfl,hk⟩
  rw[hu n h1];exact⟨by congr 2;omega,hk⟩
 ·have e:tell true n=⟨#[UInt8.ofNat (48+n / 10),UInt8.ofNat (48+n % 10)]⟩:=by unfold tell;rw[zHM (by omega) h];rfl
  rw[e];refine(zMs w _ _).mono ?_
  rintro e w' ⟨rfl,hk⟩
  rw[hu (n / 10) (by omega),hu (n % 10) (by omega)];exact⟨by congr 2;omega,hk⟩
theorem zMr(w:World)(s:ByteArray)(h:3<=s.size):Calls Tryz.prog 9 #[s] w λe w'=>(∃z,e=.returned (.int .i64 z))/\w=w':=by
 have h0:(0:Int)<s.size:=by omega
 have h1:(1:Int)<s.size:=by omega
 have h2:(2:Int)<s.size:=by omega
 go_enter Tryz.func9,Tryz.ntmps9
 go_wp2_with fail
 refine yY 4 ?_
 rw[yQ];go_wp2_with fail
 rw[yQ];go_wp2_with fail
 rw[yQ];go_wp2_with fail
 rw[yQ];go_wp2_with fail
 all_goals
  go_ret
  exact⟨⟨_,rfl⟩,rfl⟩
theorem zKS{n:Nat}(h:n<100):(tell true n).size<=2:=by
 by_cases h1:n<10
 ·have e:tell true n=⟨#[UInt8.ofNat (48+n)]⟩:=by unfold tell;rw[zHN h1];rfl
  rw[e];exact(by decide:1<=2)
 ·have e:tell true n=⟨#[UInt8.ofNat (48+n / 10),UInt8.ofNat (48+n % 10)]⟩:=by unfold tell;rw[zHM (by omega) h];rfl
  rw[e];exact yT 2
theorem zLU{n:Nat}(h:100<=n):3<=(dig 10 n).length:=by
 rw[zBZ (by decide) (show n≠0 by omega),zBZ (by decide) (show n / 10≠0 by omega),zBZ (by decide) (show n / 10 / 10≠0 by omega)];simp only[xM];omega
theorem zN9{n:Nat}(h:100<=n):3<=(tell true n).size:=by
 have h1:=zLU h;unfold tell zAs;rw[if_pos rfl,if_neg (show n≠0 by omega)];show 3<=(List.toArray _).size
 simpa using h1
theorem zl.nums{w:World}{v:Value}{xs:List Int}(h:zl w v xs.length (_root_.Go.Proofs.YtoapgjjepiopbaaGreatDoor.ints xs)):∃ad cap,v=.slice ad xs.length cap/\∀k,k<xs.length->∃g o,ad=some ⟨g,o,none⟩/\w.cell? ⟨g,o+k,none⟩=some (.int .i64 (xs.getD k 0)):=by
 exact J99 _
structure LIn where
 op:Int
 a:Int
 b:Int
 c:Int
def LIn.cells(x:LIn):List Value:=[.int .i64 x.op,.int .i64 x.a,.int .i64 x.b,.int .i64 x.c]
def zDe(m:Int)(rs:List Int):Int:=rs.foldl (λm r=>max m (wrap64 (r+1))) m
structure zB6(w:World)(b:Nat)(rg mo:Int)(v:Value)(l:List LIn):Prop where
 row:zB w b [rg,mo,v]
 own:w.ownsRow 0 158 4 v l.length (l.flatMap LIn.cells)
 ne:∀q,v.ownBlock=some q->q≠b
 form:∃la lc,v=.slice la l.length lc
theorem zHF:(Tryz.prog.info? 158).map (λi=>(i.zero,i.size,i.bytes))=some (some (.agg #[(0:Int),(0:Int),(0:Int),(0:Int)]),4,32):=by kernel_rfl
theorem zJ9{m:Int}{rs:List Int}{i:Nat}(h:i<rs.length):zDe m (rs.take (i+1))=max (zDe m (rs.take i)) (wrap64 (rs.getD i 0+1)):=by
 rw[take_at h,zDe,List.foldl_append];simp[zDe,List.getD,h]
theorem zJS{w:World}{b:Nat}{rg mo:Int}{v:Value}{l:List LIn}(h:zB6 w b rg mo v l)(x:LIn)(rs:List Int)(ra:Option Addr)(rc:Nat)(hr:zl w (.slice ra rs.length rc) rs.length (ints rs))(hl:l.length<1000000)(hb:b<w.heap.size)(hrb:∀g o,ra=some ⟨g,o,none⟩->g≠b)(hrl:rs.length<1000):
 Calls Tryz.prog 71 #[.pointer (some ⟨b,0,none⟩),.agg #[x.op,x.a,x.b,x.c],.slice ra rs.length rc] w λe w'=>∃v',e=.returned (.int .i64 (l.length:Int))/\zB6 w' b rg (zDe mo rs) v' (l++[x])/\(∀q,v'.ownBlock=some q->v.ownBlock=some q\/w.heap.size<=q)/\Keeps (λq=>q=b\/v.ownBlock=some q) w w':=by
 obtain⟨la,lc,rfl⟩:=h.form;obtain⟨n,hn⟩:=eX l.length;obtain⟨nr,hnr⟩:=eX rs.length;have HC:Hid (zB6 w b rg mo (.slice la n lc) l):=by show zB6 _ _ _ _ _ _;rw[hn];exact h
 have HR:Hid (∀j,j<nr->∃g o,ra=some ⟨g,o,none⟩/\g≠b/\w.cell? ⟨g,o+j,none⟩=some (.int .i64 (rs.getD j 0))):=λj hj=>by
  obtain⟨ad,cap,e,h1⟩:=hr.nums;cases e;obtain⟨g,o,e,c⟩:=h1 j (by omega);exact⟨g,o,e,hrb g o e,c⟩
 have HN:Hid (n=l.length/\nr=rs.length):=⟨hn,hnr⟩;have HB:Hid (b<w.heap.size/\n<1000000):=⟨hb,by omega⟩;have hn6:n<1000000:=by omega
 have hrl':nr<1000:=by omega
 obtain⟨j0,hj0,hy0,hy1,hy2⟩:=info_parts zHF;rw[<-hn,<-hnr];clear h hr hl hb hrb hrl hn hnr;go_enter Tryz.func71,Tryz.ntmps71
 go_upto_region 1 with fail
 obtain⟨b4,w1,e1,e2,R1,K1,_⟩:=newRow w [x.op,x.a,x.b,x.c] 158;try rw[e1]
 try rw[e2]
 have HR1:=yA R1;have HK1:=yA K1;have HB4:Hid (b4=w.heap.size/\b4<w1.heap.size):=⟨e1.symm,R1.lt (by simp)⟩;clear e1 e2 R1 K1;go_wp2_with fail
 go_loopw [11] (λkv wr=>∃i:Nat,i<=nr/\kv=.int .i64 i/\Hid (zB wr b [rg,.int .i64 (zDe mo (rs.take i)),.slice la n lc]/\Keeps (λq=>q=b) w1 wr)) (λkv _=>nr-(intOf kv).toNat)
 case atStart=>exact⟨0,yF _,rfl,HC.out.row.keeps HK1.out (λh=>h),yB _ _⟩
 case round =>
  obtain⟨i,hi,rfl,HP⟩:=hrel;have y:=HP.out.1.zA7;have kr:=zF wr;by_cases hlt:i<nr
  ·have i1:(0:Int)<=i:=by omega
   have i2:(i:Int)<nr:=by omega
   obtain⟨g,o,rfl,hgb,c0⟩:=HR.out i hlt;have d:=HP.out.2.cell (p:=⟨g,o+i,none⟩) (λe=>hgb e) (HK1.out.cell (λh=>h) c0);have HM:Hid (zDe mo (rs.take (i+1))=max (zDe mo (rs.take i)) (wrap64 (rs.getD i 0+1))):=zJ9 (by have:=HN.out.2;omega);have f1:=HP.out.1.free (k:=1) (by simp);generalize rs.getD i 0=r at d HM;generalize zDe mo (rs.take i)=mm at y HM HP;clear c0 hgb;go_wp2_with fail
   have hrow:=HP.out.1.set 1 (by simp) (.int .i64 (max mm (wrap64 (r+1))));exact⟨⟨i+1,by omega,by go_num,by rw[HM.out];exact hrow,HP.out.2.setCell (p:=⟨b,1,none⟩) (λ_=>rfl) _⟩,by simp[intOf];omega⟩
  ·obtain rfl:i=nr:=by omega
   have HX:=yA (HR1.out.keeps HP.out.2 (λe=>by have e':b4=b:=e;have:=HB.out.1;have:=HB4.out.1;omega));have HKX:=yA (zF wr);have HT:Hid (rs.take i=rs):=by show _=_;rw[HN.out.2,xS]
   have HPP:Hid (zB wr b [rg,.int .i64 (zDe mo rs),.slice la n lc]/\Keeps (λq=>q=b) w1 wr):=by have h:=HP.out;rw[HT.out] at h;exact h
   have HOW:Hid (wr.ownsRow 0 158 4 (.slice la n lc) n (l.flatMap LIn.cells)):=by
    have h:=HC.out.own;rw[<-HN.out.1] at h;exact zD (zD h HK1.out (λ_ _ h=>h)) HP.out.2 (λq e e2=>HC.out.ne q e e2)
   have yx:=HX.out.zBF;rw[HT.out] at y;clear HP HT;go_upto_region 6 with fail
   refine zB5 7 0 (by kernel_rfl) [some (.pointer (some ⟨b,0,none⟩)),some (.pointer (some ⟨b,0,none⟩)),some (.pointer (some ⟨b,0,none⟩)),some (.pointer (some ⟨b,2,none⟩)),some (.slice la n lc),some (.agg #[x.op,x.a,x.b,x.c]),none] rfl (λj v W=>∃g,v=.slice (some ⟨g,0,none⟩) 1 1/\zB W g [x.op,x.a,x.b,x.c]) (λj v W W' h hk=>by exact J181 _) _ rfl (λ_ _ _ _ h=>h) _ rfl (λ_ _ _=>by exact J171 _) ?_ ?_
   ·refine⟨?_,?_,?_,?_,?_,?_,?_,trivial⟩ <;> (intro vs gs W Q' hR hd hK;have HRW:Keeps zA wr W:=((zF wr).drew).zC hR;have kx:=HKX.out.zC HRW;simp only[zBK,zAt,zBo,zJ,tz,Option.bind,Act.put] at hd hK ⊢;try simp only[hd] at hK ⊢)
    all_goals try(try clear hd;go_wp2_with (fail);first|exact hK _ _ (yB _ _) rfl)
    ·clear hd
     go_wp2_with fail
     exact hK _ _ ((yB zA W).alloc (.cells #[x.op,x.a,x.b,x.c] 158)) (by show ∃g,_;exact⟨_,rfl,yK (yG W _)⟩)
   ·intro vs W hR hFF
    have HRW:Keeps zA wr W:=((zF wr).drew).zC hR;obtain⟨g,e6,rg'⟩:=(hFF 6 (by decide):∃g,vs 6=.slice (some ⟨g,0,none⟩) 1 1/\zB W g [x.op,x.a,x.b,x.c]);have e0:vs 0=_:=hFF 0 (by decide);have e4:vs 4=_:=hFF 4 (by decide);simp only[zJ,tz,Option.bind,Act.put];rw[e0,e4,e6];have HRG:=yA rg';have HKW:=yA HRW;have HBW:=yA (HPP.out.1.keeps HRW (λh=>h));have HOWW:=yA (zD HOW.out HRW (λ_ _ h=>h));clear hFF e0 e4 e6 rg' hR HRW y yx kr;go_upto_region 7 with(at_builtin;refine zI _ (by rfl) _ _ 152 (by rfl) 0 158 j0 _ 4 32 Tryz.underlying152 hj0 hy0 hy1 hy2 rfl (by decide) (.slice la n lc) n (l.flatMap LIn.cells) (by rfl) (HOWW.out) (.slice (some ⟨g,0,none⟩) 1 1) 1 [.int .i64 x.op,.int .i64 x.a,.int .i64 x.b,.int .i64 x.c] (by rfl) (xE HRG.out) rfl (by simp[Value.oneCell']) (by unfold maxLen;omega) (by omega) (yF _) ?_;intro ad8 cap8 w8 hout;have HO8:=yA hout;have zr:=HBW.out.keeps (xD hout (yB (λq=>(Value.slice la n lc).ownBlock=some q) _) (λq e _=>e)) (λe=>HC.out.ne b e rfl);have zc:=zr.cell (k:=2) rfl;have zf:=zr.free (k:=2) (by simp);have HZR:=yA zr;clear hout zr)
    have hrow:=HZR.out.set 2 (by simp) (.slice ad8 (n+1) cap8);have kS:Keeps (λq=>q=b) w8 (w8.setCell ⟨b,2,none⟩ (.slice ad8 (n+1) cap8)):=(yB (λq=>q=b) w8).setCell (p:=⟨b,2,none⟩) (λ_=>rfl) _;have hrow:zB (w8.setCell ⟨b,2,none⟩ (.slice ad8 (n+1) cap8)) b [.int .i64 rg,.int .i64 (zDe mo rs),.slice ad8 (n+1) cap8]:=hrow;generalize w8.setCell ⟨b,2,none⟩ (.slice ad8 (n+1) cap8)=w9 at hrow kS ⊢;have HROW:=yA hrow;have HKS:=yA kS;have y9:=hrow.zA7;have k9:=zF w9;clear hrow kS zc zf;go_wp2_with fail
    go_ret
    have hwW:Keeps (λq=>q=b) w W:=((HK1.out.mono (λ_ _ h=>h.elim)).trans HPP.out.2 (λ_ _ h=>h)).trans HKW.out (λ_ _ h=>h.elim);have hnew:∀q,(Value.slice ad8 (n+1) cap8).ownBlock=some q->(Value.slice la n lc).ownBlock=some q\/w.heap.size<=q:=λq e=>(HO8.out.2.2 q e).imp (λh=>h) (λh=>by have:=hwW.size;omega)
    refine⟨.slice ad8 (n+1) cap8,by go_num,⟨HROW.out,?_,λq e e2=>?_,ad8,cap8,by rw[xC,<-HN.out.1];rfl⟩,hnew,(hwW.mono (λ_ _ h=>.inl h)).trans ((xD HO8.out (yB (λq=>(Value.slice la n lc).ownBlock=some q) _) (λq e _=>e)).mono (λ_ _ h=>.inr h)|>.trans (HKS.out.mono (λ_ _ h=>.inl h)) (λ_ _ h=>h)) (λ_ _ h=>h)⟩
    ·have h:=zD HO8.out.1 HKS.out (λq e e2=>by
      have e2':q=b:=e2;rcases hnew q e with g1|g1
      ·exact HC.out.ne q g1 e2'
      ·have:=HB.out.1;omega)
     rw[xC,<-HN.out.1,List.flatMap_append];simpa [LIn.cells] using h
    ·rcases hnew q e with g1|g1
     ·exact HC.out.ne q g1 e2
     ·have:=HB.out.1;omega
def Mine(b:Nat)(v:Value)(q:Nat):Prop:=q=b\/v.ownBlock=some q
structure zV(w:World)(b:Nat)(v:Value)(w':World)(v':Value):Prop where
 own:∀q,v'.ownBlock=some q->v.ownBlock=some q\/w.heap.size<=q
 keeps:Keeps (Mine b v) w w'
theorem zV.refl{w:World}{b:Nat}{v:Value}:zV w b v w v:=⟨λ_ h=>.inl h,yB _ _⟩
theorem zV.trans{w w1 w2:World}{b:Nat}{v v1 v2:Value}(hb:b<w.heap.size)(h:zV w b v w1 v1)(h':zV w1 b v1 w2 v2):zV w b v w2 v2:=by
 have hs:=h.keeps.size;refine⟨λq e=>?_,h.keeps.trans h'.keeps (λq hq e=>?_)⟩
 ·rcases h'.own q e with e|e
  ·exact h.own q e
  ·exact .inr (by omega)
 ·rcases e with e|e
  ·exact .inl e
  ·rcases h.own q e with e|e
   ·exact .inr e
   ·omega
theorem zV.pre{w w1 w2:World}{b:Nat}{v v2:Value}(hk:Keeps zA w w1)(h':zV w1 b v w2 v2):zV w b v w2 v2:=
 ⟨λq e=>(h'.own q e).imp (λh=>h) (λh=>yX hk.size h),(hk.mono (λ_ _ h=>h.elim)).trans h'.keeps (λ_ _ h=>h)⟩
theorem zV.post{w w1 w2:World}{b:Nat}{v v1:Value}(h:zV w b v w1 v1)(hk:Keeps zA w1 w2):zV w b v w2 v1:=
 ⟨h.own,h.keeps.trans hk (λ_ _ h=>h.elim)⟩
theorem zV.not{w w':World}{b:Nat}{v v':Value}(h:zV w b v w' v'){q:Nat}(hq:q<w.heap.size)(hn:¬Mine b v q):¬Mine b v' q:=λe=>by
 rcases e with e|e
 ·exact hn (.inl e)
 ·rcases h.own q e with e|e
  ·exact hn (.inr e)
  ·omega
def zC9(w:World)(b:Nat)(v:Value)(F:Nat->Prop):Prop:=∀q,F q->q<w.heap.size/\¬Mine b v q
theorem zC9.run{w w':World}{b:Nat}{v v':Value}{F:Nat->Prop}(h:zC9 w b v F)(hr:zV w b v w' v'):zC9 w' b v' F:=λq hq =>
 ⟨yH (h q hq).1 hr.keeps.size,hr.not (h q hq).1 (h q hq).2⟩
theorem zC9.zG{w w':World}{b:Nat}{v:Value}{F:Nat->Prop}(h:zC9 w b v F)(hk:Keeps zA w w'):zC9 w' b v F:=λq hq=>⟨yH (h q hq).1 hk.size,(h q hq).2⟩
def zO(w:World)(b:Nat)(v:Value)(rg:Int)(n:Nat):Prop:=∃mo l,zB6 w b rg mo v l/\l.length=n
theorem zB6.keeps{S:Nat->Prop}{w w':World}{b:Nat}{rg mo:Int}{v:Value}{l:List LIn}(h:zB6 w b rg mo v l)(hk:Keeps S w w')(hb:¬S b)(hv:∀q,v.ownBlock=some q->¬S q):zB6 w' b rg mo v l:=
 ⟨h.row.keeps hk hb,zD h.own hk hv,h.ne,h.form⟩
theorem zO.zG{w w':World}{b n:Nat}{v:Value}{rg:Int}(h:zO w b v rg n)(hk:Keeps zA w w'):zO w' b v rg n:=by
 obtain⟨mo,l,h1,h2⟩:=h;exact⟨mo,l,h1.keeps hk (λh=>h) (λ_ _ h=>h),h2⟩
theorem zO.lt{w:World}{b n:Nat}{v:Value}{rg:Int}(h:zO w b v rg n):b<w.heap.size:=by
 obtain⟨mo,l,h1,_⟩:=h;exact h1.row.lt (by simp)
theorem zO.zRb{w:World}{b n:Nat}{v:Value}{rg:Int}(h:zO w b v rg n){q:Nat}(hq:Mine b v q):q<w.heap.size:=by
 obtain⟨mo,l,h1,_⟩:=h;rcases hq with rfl|hq
 ·exact h1.row.lt (by simp)
 ·exact zM h1.own hq
theorem zO.regs{w:World}{b n:Nat}{v:Value}{rg:Int}(h:zO w b v rg n):w.cell? ⟨b,0,none⟩=some (.int .i64 rg):=by
 obtain⟨mo,l,h1,_⟩:=h;exact h1.row.cell (k:=0) rfl
theorem zO.new{w:World}{b n:Nat}{v:Value}{rg:Int}(h:zO w b v rg n){q:Nat}(hq:w.heap.size<=q):¬Mine b v q:=λe=>by
 have:=h.zRb e;omega
theorem zEy(x:LIn):x.cells.length=4:=rfl
theorem zO.at{w:World}{b n:Nat}{v:Value}{rg:Int}(h:zO w b v rg n){i:Nat}(hi:i<n):∃g cap,v=.slice (some ⟨g,0,none⟩) n cap/\w.cell? ⟨b,2,none⟩=some (.slice (some ⟨g,0,none⟩) n cap)/\(∀j,j<4->∃u,w.cell? ⟨g,i*4+j,none⟩=some u)/\(∀j,w.frozen? ⟨g,j,none⟩=false) ∧
 ∀j,j<4->∀u:Int,zO (w.setCell ⟨g,i*4+j,none⟩ (.int .i64 u)) b v rg n/\zV w b v (w.setCell ⟨g,i*4+j,none⟩ (.int .i64 u)) v:=by
 obtain⟨mo,l,h1,rfl⟩:=h;obtain⟨la,lc,rfl⟩:=h1.form;have hne:l ≠ []:=λe=>by subst e;simp at hi
 rcases h1.own.2 with⟨e,h0⟩|⟨g,cap,cur,e,h5,hg,hn,hm,_⟩
 ·simp at e;exact absurd e.2.1 hne
 ·simp only[xH,yh] at e
  obtain⟨rfl,rfl⟩:=e;have hgb:g≠b:=h1.ne g rfl;have hx:l[i]?=some l[i]:=yL hi;refine⟨g,lc,rfl,h1.row.cell (k:=2) rfl,λj hj=>?_,λj=>frozen_of_row w g j cur _ hg,λj hj u=>?_⟩
  ·have:=h1.own.cellAt (i*4+j) (by omega)
   rw[zCh _ 4 zEy l i j hj,hx] at this;have hl:j<l[i].cells.length:=by rw[zEy];exact hj
   exact⟨l[i].cells[j],by rw[this];simp only[yO];exact yL hl⟩
  ·have hk:Keeps (λq=>q=g) w (w.setCell ⟨g,i*4+j,none⟩ (.int .i64 u)):=(yB (λq=>q=g) w).setCell (p:=⟨g,i*4+j,none⟩) (λ_=>rfl) _
   refine⟨?_,⟨λ_ h=>.inl h,hk.mono (λq _ e=>.inr (by have e':q=g:=e;rw[e'];rfl))⟩⟩
   obtain⟨y,hy⟩:∃y:LIn,y.cells=l[i].cells.set j (.int .i64 u):=by
    rcases (show j=0\/j=1\/j=2\/j=3 by omega) with rfl|rfl|rfl|rfl
    ·exact⟨{ l[i] with op:=u },rfl⟩
    ·exact⟨{ l[i] with a:=u },rfl⟩
    ·exact⟨{ l[i] with b:=u },rfl⟩
    ·exact⟨{ l[i] with c:=u },rfl⟩
   refine⟨mo,l.set i y,⟨h1.row.keeps hk (λe=>hgb e.symm),?_,h1.ne,_,_,by rw[xQ]⟩,xQ⟩
   have:=(h1.own.stored (i*4+j) (.int .i64 u)).1
   rw[zDB _ 4 zEy l i j hj (.int .i64 u) l[i] y hx hy] at this;rw[xQ];exact this
def zAL(M:World->Nat->Value->Int->Nat->Prop)(w:World)(b:Nat)(v:Value)(rg:Int)(n m:Nat)(r:Value)(e:Ending)(w':World):Prop:=
 ∃v' n',e=.returned r/\n<=n'/\n'<=n+m/\M w' b v' rg n'/\zV w b v w' v'
theorem zRR{w:World}{b n:Nat}{v:Value}{rg:Int}(h:zO w b v rg n)(x:LIn)(rs:List Int)(ra:Option Addr)(rc:Nat)(hr:zl w (.slice ra rs.length rc) rs.length (ints rs))(hn:n<1000000)(hrb:∀g o,ra=some ⟨g,o,none⟩->g≠b)(hrl:rs.length<1000):
 Calls Tryz.prog 71 #[.pointer (some ⟨b,0,none⟩),.agg #[x.op,x.a,x.b,x.c],.slice ra rs.length rc] w λe w'=>∃v',e=.returned n/\zO w' b v' rg (n+1)/\zV w b v w' v':=by
 obtain⟨mo,l,h1,rfl⟩:=h;refine(zJS h1 x rs ra rc hr hn (h1.row.lt (by simp)) hrb hrl).mono ?_
 rintro e w' ⟨v',he,hc,hq,hk⟩
 exact⟨v',he,⟨_,_,hc,by simp⟩,hq,hk⟩
theorem zCG{w:World}{b n:Nat}{v:Value}{rg:Int}(h:zO w b v rg n)(x:LIn)(rs:List Int)(T:TypeId)(hn:n<1000000)(hrl:rs.length<1000):
 Calls Tryz.prog 71 #[.pointer (some ⟨b,0,none⟩),.agg #[x.op,x.a,x.b,x.c],.slice (some ⟨w.heap.size,0,none⟩) rs.length rs.length] (w.alloc (.cells (ints rs).toArray T)) λe w'=>∃v',e=.returned n/\zO w' b v' rg (n+1)/\zV w b v w' v':=by
 have hk:Keeps zA w (w.alloc (.cells (ints rs).toArray T)):=(yB _ _).alloc _;have hR:zB (w.alloc (.cells (ints rs).toArray T)) w.heap.size (ints rs):=yK (yG w _);refine(zRR (h.zG hk) x rs _ rs.length (xE hR) hn (λg o e=>?_) hrl).mono ?_
 ·have:=h.lt
  simp only[yN,Addr.mk.injEq] at e;omega
 ·rintro e w' ⟨v',he,hc,hq⟩
  exact⟨v',he,hc,zV.pre hk hq⟩
theorem zGD{w:World}{b n:Nat}{v:Value}{rg:Int}(h:zO w b v rg n)(x:LIn)(hn:n<1000000):
 Calls Tryz.prog 71 #[.pointer (some ⟨b,0,none⟩),.agg #[x.op,x.a,x.b,x.c],.slice none 0 0] w λe w'=>∃v',e=.returned n/\zO w' b v' rg (n+1)/\zV w b v w' v':=
 zRR h x [] none 0 ⟨none,0,rfl,λh=>absurd rfl h⟩ hn (λg o e=>by cases e) (by decide)
theorem zHV{w:World}{b n:Nat}{v:Value}{rg:Int}(h:zO w b v rg n)(k kd num:Int)(nm:ByteArray)(ad:Option Addr)(m cap:Nat)(hn:n<1000000)(hk:kd=1\/kd=2):
 Calls Tryz.prog 161 #[.pointer (some ⟨b,0,none⟩),k,.agg #[kd,num,nm,.slice ad m cap]] w (zAL zO w b v rg n 1 (.tuple #[])):=by
 have H:=yA h;clear h;go_enter Tryz.func161,Tryz.ntmps161
 go_upto_region 1 with fail
 obtain⟨b1,w1,e1,e2,R1,K1,_⟩:=newRow w [kd,num,nm,.slice ad m cap] 144;rw[e1,e2];have HB1:Hid (b1=w.heap.size):=e1.symm;have HR1:=yA R1;have HK1:=yA K1;have y:=R1.zBF;have k1:=zF w1;clear e1 e2 R1 K1;rcases hk with rfl|rfl
 ·go_wp2_with (go_at_call 71;refine(zCG (H.out.zG HK1.out) ⟨1,k,num,0⟩ [k] _ hn (by simp)).mono ?_;rintro e w9 ⟨v9,rfl,h2,r2⟩;have H2:=yA (And.intro h2 (zV.pre HK1.out r2));clear h2 r2 y k1)
  go_returns
  exact⟨v9,n+1,rfl,by omega,by omega,H2.out⟩
 ·go_wp2_with (go_at_call 71;refine(zCG (H.out.zG HK1.out) ⟨2,k,num,0⟩ [k,num] _ hn (by simp)).mono ?_;rintro e w9 ⟨v9,rfl,h2,r2⟩;have H2:=yA (And.intro h2 (zV.pre HK1.out r2));clear h2 r2 y k1)
  go_returns
  exact⟨v9,n+1,rfl,by omega,by omega,H2.out⟩
theorem zNx{w:World}{b n:Nat}{v:Value}{rg:Int}(h:zO w b v rg n)(k kd num:Int)(nm:ByteArray)(x0:Ex)(F:Nat->Prop)(ad:Option Addr)(cap m0:Nat)(hx:zR w F [x0] ad)(hF:zC9 w b v F)
 (hv0:∀W v n k xa xc,zO W b v rg n->zR W F x0.args xa->zC9 W b v F->n+m0<1000000->Calls Tryz.prog 161 #[.pointer (some ⟨b,0,none⟩),.int .i64 k,exV x0 xa xc] W (zAL zO W b v rg n m0 (.tuple #[])))
 (hn:n+(m0+1)<1000000) (hk:kd=3\/kd=4):
 Calls Tryz.prog 161 #[.pointer (some ⟨b,0,none⟩),k,.agg #[kd,num,nm,.slice ad 1 cap]] w (zAL zO w b v rg n (m0+1) (.tuple #[])):=by
 obtain⟨g,o,xa0,xc0,rfl,hg0,c0,c1,c2,c3,hx0⟩:=hx.at (i:=0) (Nat.succ_pos _);have H0:Hid (∀W v n k,zO W b v rg n->zR W F x0.args xa0->zC9 W b v F->n+m0<1000000->Calls Tryz.prog 161 #[.pointer (some ⟨b,0,none⟩),.int .i64 k,.agg #[x0.kind,x0.num,x0.nm,.slice xa0 x0.args.length xc0]] W (zAL zO W b v rg n m0 (.tuple #[]))):=λW v n k a1 a2 a3 a4=>hv0 W v n k xa0 xc0 a1 a2 a3 a4
 have HX0:=yA hx0;have d0:∀S W,Keeps S w W->¬S g->W.cell? ⟨g,o+0,none⟩=some (.int .i64 x0.kind)/\W.cell? ⟨g,o+1,none⟩=some (.int .i64 x0.num)/\W.cell? ⟨g,o+2,none⟩=some (.string x0.nm)/\W.cell? ⟨g,o+3,none⟩=some (.slice xa0 x0.args.length xc0):=λS W q hS=>⟨q.cell hS c0,q.cell hS c1,q.cell hS c2,q.cell hS c3⟩
 generalize x0.kind=p0 at H0 d0;generalize x0.num=n0 at H0 d0;generalize x0.nm=s0 at H0 d0;generalize x0.args.length=z0 at H0 d0;clear c0 c1 c2 c3 hv0 hx0;rw[uQ] at d0;have hnm:=(hF g hg0).2;have H:=yA h;have HF:=yA hF;have HD0:=yA d0;clear h hF hx d0;go_enter Tryz.func161,Tryz.ntmps161
 go_upto_region 1 with fail
 obtain⟨b1,w1,e1,e2,R1,K1,_⟩:=newRow w [kd,num,nm,.slice (some ⟨g,o,none⟩) 1 cap] 144;rw[e1,e2];have HB1:Hid (b1=w.heap.size):=e1.symm;have HR1:=yA R1;have HK1:=yA K1;have y:=R1.zBF;have k1:=zF w1;clear e1 e2 R1 K1;have hb1:¬Mine b v b1:=by rw[HB1.out];exact H.out.new (yT _)
 have HFF:Hid (zC9 w1 b v F):=HF.out.zG HK1.out;have HX0':=yA (HX0.out.keeps HK1.out (λ_ _ h=>h));have HS0:Hid (zO w1 b v rg n/\zV w1 b v w1 v):=⟨H.out.zG HK1.out,zV.refl⟩;have hlt1:b<w1.heap.size:=HS0.out.1.lt;have d0:=λ(W:World)(q:Keeps zA w1 W)=>HD0.out zA W (HK1.out.zC q) (λh=>h)
 rcases hk with rfl|rfl
 ·exact J29 _
 ·exact J29 _
theorem zMU{w:World}{b n:Nat}{v:Value}{rg:Int}(h:zO w b v rg n)(k kd num:Int)(nm:ByteArray)(x0 x1:Ex)(F:Nat->Prop)(ad:Option Addr)(cap m0 m1:Nat)(hx:zR w F [x0,x1] ad)(hF:zC9 w b v F)
 (hv0:∀W v n k xa xc,zO W b v rg n->zR W F x0.args xa->zC9 W b v F->n+m0<1000000->Calls Tryz.prog 161 #[.pointer (some ⟨b,0,none⟩),.int .i64 k,exV x0 xa xc] W (zAL zO W b v rg n m0 (.tuple #[])))
 (hv1:∀W v n k xa xc,zO W b v rg n->zR W F x1.args xa->zC9 W b v F->n+m1<1000000->Calls Tryz.prog 161 #[.pointer (some ⟨b,0,none⟩),.int .i64 k,exV x1 xa xc] W (zAL zO W b v rg n m1 (.tuple #[])))
 (hn:n+(m0+m1+1)<1000000) (hk:5<=kd/\kd<=17):
 Calls Tryz.prog 161 #[.pointer (some ⟨b,0,none⟩),k,.agg #[kd,num,nm,.slice ad 2 cap]] w (zAL zO w b v rg n (m0+m1+1) (.tuple #[])):=by
 obtain⟨g,o,xa0,xc0,rfl,hg0,c0,c1,c2,c3,hx0⟩:=hx.at (i:=0) (Nat.succ_pos _);have H0:Hid (∀W v n k,zO W b v rg n->zR W F x0.args xa0->zC9 W b v F->n+m0<1000000->Calls Tryz.prog 161 #[.pointer (some ⟨b,0,none⟩),.int .i64 k,.agg #[x0.kind,x0.num,x0.nm,.slice xa0 x0.args.length xc0]] W (zAL zO W b v rg n m0 (.tuple #[]))):=λW v n k a1 a2 a3 a4=>hv0 W v n k xa0 xc0 a1 a2 a3 a4
 have HX0:=yA hx0;have d0:∀S W,Keeps S w W->¬S g->W.cell? ⟨g,o+0,none⟩=some (.int .i64 x0.kind)/\W.cell? ⟨g,o+1,none⟩=some (.int .i64 x0.num)/\W.cell? ⟨g,o+2,none⟩=some (.string x0.nm)/\W.cell? ⟨g,o+3,none⟩=some (.slice xa0 x0.args.length xc0):=λS W q hS=>⟨q.cell hS c0,q.cell hS c1,q.cell hS c2,q.cell hS c3⟩
 generalize x0.kind=p0 at H0 d0;generalize x0.num=n0 at H0 d0;generalize x0.nm=s0 at H0 d0;generalize x0.args.length=z0 at H0 d0;clear c0 c1 c2 c3 hv0 hx0;obtain⟨g,o,xa1,xc1,q1,hg1,c0,c1,c2,c3,hx1⟩:=hx.at (i:=1) (Nat.lt_succ_self 1);cases q1;have H1:Hid (∀W v n k,zO W b v rg n->zR W F x1.args xa1->zC9 W b v F->n+m1<1000000->Calls Tryz.prog 161 #[.pointer (some ⟨b,0,none⟩),.int .i64 k,.agg #[x1.kind,x1.num,x1.nm,.slice xa1 x1.args.length xc1]] W (zAL zO W b v rg n m1 (.tuple #[]))):=λW v n k a1 a2 a3 a4=>hv1 W v n k xa1 xc1 a1 a2 a3 a4
 have HX1:=yA hx1;have d1:∀S W,Keeps S w W->¬S g->W.cell? ⟨g,o+4,none⟩=some (.int .i64 x1.kind)/\W.cell? ⟨g,o+5,none⟩=some (.int .i64 x1.num)/\W.cell? ⟨g,o+6,none⟩=some (.string x1.nm)/\W.cell? ⟨g,o+7,none⟩=some (.slice xa1 x1.args.length xc1):=λS W q hS=>⟨q.cell hS c0,q.cell hS c1,q.cell hS c2,q.cell hS c3⟩
 generalize x1.kind=p1 at H1 d1;generalize x1.num=n1 at H1 d1;generalize x1.nm=s1 at H1 d1;generalize x1.args.length=z1 at H1 d1;clear c0 c1 c2 c3 hv1 hx1;rw[uQ] at d0;have hnm:=(hF g hg0).2;have H:=yA h;have HF:=yA hF;have HD0:=yA d0;have HD1:=yA d1;clear h hF hx d0 d1;go_enter Tryz.func161,Tryz.ntmps161
 go_upto_region 1 with fail
 obtain⟨b1,w1,e1,e2,R1,K1,_⟩:=newRow w [kd,num,nm,.slice (some ⟨g,o,none⟩) 2 cap] 144;rw[e1,e2];have HB1:Hid (b1=w.heap.size):=e1.symm;have HR1:=yA R1;have HK1:=yA K1;have y:=R1.zBF;have k1:=zF w1;clear e1 e2 R1 K1;have hb1:¬Mine b v b1:=by rw[HB1.out];exact H.out.new (yT _)
 have HFF:Hid (zC9 w1 b v F):=HF.out.zG HK1.out;have HX0':=yA (HX0.out.keeps HK1.out (λ_ _ h=>h));have HX1':=yA (HX1.out.keeps HK1.out (λ_ _ h=>h));have HS0:Hid (zO w1 b v rg n/\zV w1 b v w1 v):=⟨H.out.zG HK1.out,zV.refl⟩;have hlt1:b<w1.heap.size:=HS0.out.1.lt;have d0:=λ(W:World)(q:Keeps zA w1 W)=>HD0.out zA W (HK1.out.zC q) (λh=>h)
 obtain⟨hk5,hk17⟩:=hk;have kb1:(kd==1)=false:=J183 _;have kb2:(kd==2)=false:=J183 _;go_upto_region 7 with(go_at_call 161;refine(H0.out _ _ _ _ HS0.out.1 (HX0'.out.keeps HS0.out.2.keeps (λq hq=>(HFF.out q hq).2)) (HFF.out.run HS0.out.2) (by omega)).mono ?_;rintro e w2 ⟨v1,t1,rfl,l1,u1,h2,r2⟩;have HS1:=yA (And.intro h2 (zV.trans hlt1 HS0.out.2 r2));clear y d0 k1 h2 r2;have y:=(HR1.out.keeps HS1.out.2.keeps hb1).zBF;have k1:=zF w2;have d1:=λ(W:World)(q:Keeps zA w2 W)=>HD1.out (Mine b v) W ((HK1.out.mono (λ_ _ h=>h.elim)).trans (HS1.out.2.keeps.trans q (λ_ _ h=>h.elim)) (λ_ _ h=>h)) hnm)
 go_upto_region 11 with(go_at_call 161;refine(H1.out _ _ _ _ HS1.out.1 (HX1'.out.keeps HS1.out.2.keeps (λq hq=>(HFF.out q hq).2)) (HFF.out.run HS1.out.2) (by omega)).mono ?_;rintro e w3 ⟨v2,t2,rfl,l2,u2,h2,r2⟩;have HS2:=yA (And.intro h2 (zV.trans hlt1 HS1.out.2 r2));clear y d1 k1 h2 r2;have y:=(HR1.out.keeps HS2.out.2.keeps hb1).zBF;have k1:=zF w3)
 go_wp2_with (go_at_call 71;refine(zCG HS2.out.1 ⟨_,_,_,_⟩ [k,_] _ (by omega) (by simp)).mono ?_;rintro e w9 ⟨v9,rfl,h2,r2⟩;have H2:=yA (And.intro h2 (zV.pre HK1.out (zV.trans hlt1 HS2.out.2 r2)));clear h2 r2 y k1)
 go_returns
 exact⟨v9,t2+1,rfl,by omega,by omega,H2.out⟩
theorem zMh(b:Nat)(rg regs:Int)(F:Nat->Prop):∀(x:Ex)(w:World)(v:Value)(n:Nat)(k:Int)(ad:Option Addr)(cap:Nat),zO w b v rg n->zR w F x.args ad->zC9 w b v F->x.may regs=true->n+x.cnt<1000000 →
 Calls Tryz.prog 161 #[.pointer (some ⟨b,0,none⟩),k,exV x ad cap] w (zAL zO w b v rg n x.cnt (.tuple #[])):=by
 refine Ex.ind (λkd num nm l ih w v n k ad cap h hx hF hm hn=>?_)
 obtain⟨h1,h2⟩:=Ex.zDA hm;have hlf:zAE kd num nm l.length regs=true:=h1;have hml:Ex.zAC regs l=true:=h2;have hL:zR w F l ad:=hx;have hc:(Ex.mk kd num nm l).cnt=Ex.zT l+1:=by rw[Ex.cnt];omega
 rw[hc] at hn ⊢;show Calls _ _ #[.pointer (some ⟨b,0,none⟩),.int .i64 k,.agg #[kd,num,nm,.slice ad l.length cap]] _ _
 have hsub:∀y,y∈l->∀W v n k xa xc,zO W b v rg n->zR W F y.args xa->zC9 W b v F->n+y.cnt<1000000->Calls Tryz.prog 161 #[.pointer (some ⟨b,0,none⟩),.int .i64 k,exV y xa xc] W (zAL zO W b v rg n y.cnt (.tuple #[])):=λy hy W v n k xa xc g1 g2 g3 g4=>ih y hy W v n k xa xc g1 g2 g3 (Ex.zE3 hml hy) g4
 rcases zDV hlf with⟨rfl,h0⟩|⟨rfl,h0,_,_⟩|⟨hk,h0⟩|⟨k1,k2,h0⟩
 ·rw[xW h0]
  exact zHV h k 1 num nm ad _ cap (by omega) (.inl rfl)
 ·rw[xW h0]
  exact zHV h k 2 num nm ad _ cap (by omega) (.inr rfl)
 ·match l,h0,hL,hsub,hn with
  | [x0],_,hL,hsub,hn =>
    simp only[Ex.zT,uQ] at hn ⊢;exact zNx h k kd num nm x0 F ad cap x0.cnt hL hF (hsub x0 (by simp)) hn hk
 ·match l,h0,hL,hsub,hn with
  | [x0,x1],_,hL,hsub,hn =>
    simp only[Ex.zT,uQ] at hn ⊢;exact zMU h k kd num nm x0 x1 F ad cap x0.cnt x1.cnt hL hF (hsub x0 (by simp)) (hsub x1 (by simp)) hn ⟨k1,k2⟩
