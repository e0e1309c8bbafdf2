/- Layer D: texts joined. -/
import Derived.Test.YtoapgjjepiopbaaGreatDoorD39
set_option linter.all false
set_option maxHeartbeats 4000000
set_option maxRecDepth 8000
namespace Go.Proofs.YtoapgjjepiopbaaGreatDoor
open Go.RowKit
abbrev vF:=@Go.Proofs.Tryz.func109
abbrev vD:=@zV.refl
abbrev uR:=@Go.Proofs.Tryz.ntmps109
abbrev uE:=@zV.pre
abbrev xP:=@zV.trans
theorem J185(P:Prop)(h:P:=by rw[e1];exact yT _):P:=h
theorem zQd{w:World}{b n:Nat}{v:Value}{rg:Int}(h:zO w b v rg n)(d:Int)(reg obj xk xn count:Int)(nm:ByteArray)(xa ta ea:Option Addr)(nx xc nt tc ne ec:Nat)(mx:Nat)(hxk:xk≠0)(HX:Hid (∀W v' n' k,zO W b v' rg n'->zV w b v W v'->n'+mx<1000000->Calls Tryz.prog 161 #[.pointer (some ⟨b,0,none⟩),.int .i64 k,.agg #[xk,xn,nm,.slice xa nx xc]] W (zAL zO W b v' rg n' mx (.tuple #[]))))(hn:n+(mx+2)<1000000):
 Calls Tryz.prog 109 #[.pointer (some ⟨b,0,none⟩),.agg #[(1:Int),reg,obj,xk,xn,nm,.slice xa nx xc,count,.slice ta nt tc,.slice ea ne ec],d] w (zAL zO w b v rg n (mx+2) (.tuple #[])):=by
 have hxb:(xk != 0)=true:=by simpa using hxk
 have H:=yA h;clear h;go_enter vF,uR
 go_upto_region 1 with fail
 obtain⟨b1,w1,e1,e2,R1,K1,_⟩:=newRow w [(1:Int),reg,obj,xk,xn,nm,.slice xa nx xc,count,.slice ta nt tc,.slice ea ne ec] 146;rw[e1,e2];have hb1:¬Mine b v b1:=H.out.new (J185 _);have HR1:=yA R1;have HK1:=yA K1;have HS0:Hid (zO w1 b v rg n/\zV w1 b v w1 v):=⟨H.out.zG HK1.out,vD⟩;have hlt1:b<w1.heap.size:=HS0.out.1.lt;have y:=R1.zq;have yr:=zL HS0.out.1.regs;have k1:=zF w1;clear e1 e2 R1 K1;go_upto_region 4 with(go_at_call 161;refine(HX.out _ _ _ _ HS0.out.1 (uE HK1.out HS0.out.2) (by omega)).mono ?_;rintro e w2 ⟨v1,t1,rfl,l1,u1,h2,r2⟩;have HS1:=yA (And.intro h2 (xP hlt1 HS0.out.2 r2));clear y k1 h2 r2;try clear yr;have y:=(HR1.out.keeps HS1.out.2.keeps hb1).zq;have yr:=zL HS1.out.1.regs;have k1:=zF w2)
 go_wp2_with (go_at_call 71;refine(zCG HS1.out.1 ⟨_,_,_,_⟩ [reg,_] _ (by omega) (by simp)).mono ?_;rintro e w3 ⟨v2,rfl,h2,r2⟩;have HS2:=yA (And.intro h2 (xP hlt1 HS1.out.2 r2));clear y k1 h2 r2;try clear yr;have y:=(HR1.out.keeps HS2.out.2.keeps hb1).zq;have yr:=zL HS2.out.1.regs;have k1:=zF w3)
 go_returns
 exact⟨v2,t1+1,rfl,by omega,by omega,HS2.out.1,uE HK1.out HS2.out.2⟩
theorem zQ3{w:World}{b n:Nat}{v:Value}{rg:Int}(h:zO w b v rg n)(d:Int)(reg obj xk xn count:Int)(nm:ByteArray)(xa ta ea:Option Addr)(nx xc nt tc ne ec:Nat)(hxk:xk=0)(hn:n+(2)<1000000):
 Calls Tryz.prog 109 #[.pointer (some ⟨b,0,none⟩),.agg #[(2:Int),reg,obj,xk,xn,nm,.slice xa nx xc,count,.slice ta nt tc,.slice ea ne ec],d] w (zAL zO w b v rg n (2) (.tuple #[])):=by
 subst hxk;have H:=yA h;clear h;go_enter vF,uR
 go_upto_region 1 with fail
 obtain⟨b1,w1,e1,e2,R1,K1,_⟩:=newRow w [(2:Int),reg,obj,(0:Int),xn,nm,.slice xa nx xc,count,.slice ta nt tc,.slice ea ne ec] 146;rw[e1,e2];have hb1:¬Mine b v b1:=H.out.new (J185 _);have HR1:=yA R1;have HK1:=yA K1;have HS0:Hid (zO w1 b v rg n/\zV w1 b v w1 v):=⟨H.out.zG HK1.out,vD⟩;have hlt1:b<w1.heap.size:=HS0.out.1.lt;have y:=R1.zq;have yr:=zL HS0.out.1.regs;have k1:=zF w1;clear e1 e2 R1 K1;go_wp2_with (go_at_call 71;refine(zCG HS0.out.1 ⟨_,_,_,_⟩ [reg] _ (by omega) (by simp)).mono ?_;rintro e w2 ⟨v1,rfl,h2,r2⟩;have HS1:=yA (And.intro h2 (xP hlt1 HS0.out.2 r2));clear y k1 h2 r2;try clear yr;have y:=(HR1.out.keeps HS1.out.2.keeps hb1).zq;have yr:=zL HS1.out.1.regs;have k1:=zF w2)
 go_returns
 exact⟨v1,n+1,rfl,by omega,by omega,HS1.out.1,uE HK1.out HS1.out.2⟩
theorem zQn{w:World}{b n:Nat}{v:Value}{rg:Int}(h:zO w b v rg n)(d:Int)(reg obj xk xn count:Int)(nm:ByteArray)(xa ta ea:Option Addr)(nx xc nt tc ne ec:Nat)(mx:Nat)(hxk:xk≠0)(HX:Hid (∀W v' n' k,zO W b v' rg n'->zV w b v W v'->n'+mx<1000000->Calls Tryz.prog 161 #[.pointer (some ⟨b,0,none⟩),.int .i64 k,.agg #[xk,xn,nm,.slice xa nx xc]] W (zAL zO W b v' rg n' mx (.tuple #[]))))(hn:n+(mx+2)<1000000):
 Calls Tryz.prog 109 #[.pointer (some ⟨b,0,none⟩),.agg #[(3:Int),reg,obj,xk,xn,nm,.slice xa nx xc,count,.slice ta nt tc,.slice ea ne ec],d] w (zAL zO w b v rg n (mx+2) (.tuple #[])):=by
 have hxb:(xk != 0)=true:=by simpa using hxk
 have H:=yA h;clear h;go_enter vF,uR
 go_upto_region 1 with fail
 obtain⟨b1,w1,e1,e2,R1,K1,_⟩:=newRow w [(3:Int),reg,obj,xk,xn,nm,.slice xa nx xc,count,.slice ta nt tc,.slice ea ne ec] 146;rw[e1,e2];have hb1:¬Mine b v b1:=H.out.new (J185 _);have HR1:=yA R1;have HK1:=yA K1;have HS0:Hid (zO w1 b v rg n/\zV w1 b v w1 v):=⟨H.out.zG HK1.out,vD⟩;have hlt1:b<w1.heap.size:=HS0.out.1.lt;have y:=R1.zq;have yr:=zL HS0.out.1.regs;have k1:=zF w1;clear e1 e2 R1 K1;go_upto_region 4 with(go_at_call 161;refine(HX.out _ _ _ _ HS0.out.1 (uE HK1.out HS0.out.2) (by omega)).mono ?_;rintro e w2 ⟨v1,t1,rfl,l1,u1,h2,r2⟩;have HS1:=yA (And.intro h2 (xP hlt1 HS0.out.2 r2));clear y k1 h2 r2;try clear yr;have y:=(HR1.out.keeps HS1.out.2.keeps hb1).zq;have yr:=zL HS1.out.1.regs;have k1:=zF w2)
 go_wp2_with (go_at_call 71;refine(zCG HS1.out.1 ⟨_,_,_,_⟩ [_] _ (by omega) (by simp)).mono ?_;rintro e w3 ⟨v2,rfl,h2,r2⟩;have HS2:=yA (And.intro h2 (xP hlt1 HS1.out.2 r2));clear y k1 h2 r2;try clear yr;have y:=(HR1.out.keeps HS2.out.2.keeps hb1).zq;have yr:=zL HS2.out.1.regs;have k1:=zF w3)
 go_returns
 exact⟨v2,t1+1,rfl,by omega,by omega,HS2.out.1,uE HK1.out HS2.out.2⟩
theorem zQi{w:World}{b n:Nat}{v:Value}{rg:Int}(h:zO w b v rg n)(d:Int)(reg obj xk xn count:Int)(nm:ByteArray)(xa ta ea:Option Addr)(nx xc nt tc ne ec:Nat)(mx:Nat)(hxk:xk≠0)(HX:Hid (∀W v' n' k,zO W b v' rg n'->zV w b v W v'->n'+mx<1000000->Calls Tryz.prog 161 #[.pointer (some ⟨b,0,none⟩),.int .i64 k,.agg #[xk,xn,nm,.slice xa nx xc]] W (zAL zO W b v' rg n' mx (.tuple #[]))))(hn:n+(mx+2)<1000000):
 Calls Tryz.prog 109 #[.pointer (some ⟨b,0,none⟩),.agg #[(4:Int),reg,obj,xk,xn,nm,.slice xa nx xc,count,.slice ta nt tc,.slice ea ne ec],d] w (zAL zO w b v rg n (mx+2) (.tuple #[])):=by
 have hxb:(xk != 0)=true:=by simpa using hxk
 have H:=yA h;clear h;go_enter vF,uR
 go_upto_region 1 with fail
 obtain⟨b1,w1,e1,e2,R1,K1,_⟩:=newRow w [(4:Int),reg,obj,xk,xn,nm,.slice xa nx xc,count,.slice ta nt tc,.slice ea ne ec] 146;rw[e1,e2];have hb1:¬Mine b v b1:=H.out.new (J185 _);have HR1:=yA R1;have HK1:=yA K1;have HS0:Hid (zO w1 b v rg n/\zV w1 b v w1 v):=⟨H.out.zG HK1.out,vD⟩;have hlt1:b<w1.heap.size:=HS0.out.1.lt;have y:=R1.zq;have yr:=zL HS0.out.1.regs;have k1:=zF w1;clear e1 e2 R1 K1;go_upto_region 4 with(go_at_call 161;refine(HX.out _ _ _ _ HS0.out.1 (uE HK1.out HS0.out.2) (by omega)).mono ?_;rintro e w2 ⟨v1,t1,rfl,l1,u1,h2,r2⟩;have HS1:=yA (And.intro h2 (xP hlt1 HS0.out.2 r2));clear y k1 h2 r2;try clear yr;have y:=(HR1.out.keeps HS1.out.2.keeps hb1).zq;have yr:=zL HS1.out.1.regs;have k1:=zF w2)
 go_wp2_with (go_at_call 71;refine(zCG HS1.out.1 ⟨_,_,_,_⟩ [reg,_] _ (by omega) (by simp)).mono ?_;rintro e w3 ⟨v2,rfl,h2,r2⟩;have HS2:=yA (And.intro h2 (xP hlt1 HS1.out.2 r2));clear y k1 h2 r2;try clear yr;have y:=(HR1.out.keeps HS2.out.2.keeps hb1).zq;have yr:=zL HS2.out.1.regs;have k1:=zF w3)
 go_returns
 exact⟨v2,t1+1,rfl,by omega,by omega,HS2.out.1,uE HK1.out HS2.out.2⟩
theorem zQP{w:World}{b n:Nat}{v:Value}{rg:Int}(h:zO w b v rg n)(d:Int)(reg obj xk xn count:Int)(nm:ByteArray)(xa ta ea:Option Addr)(nx xc nt tc ne ec:Nat)(hxk:xk=0)(hn:n+(2)<1000000):
 Calls Tryz.prog 109 #[.pointer (some ⟨b,0,none⟩),.agg #[(5:Int),reg,obj,xk,xn,nm,.slice xa nx xc,count,.slice ta nt tc,.slice ea ne ec],d] w (zAL zO w b v rg n (2) (.tuple #[])):=by
 subst hxk;have H:=yA h;clear h;go_enter vF,uR
 go_upto_region 1 with fail
 obtain⟨b1,w1,e1,e2,R1,K1,_⟩:=newRow w [(5:Int),reg,obj,(0:Int),xn,nm,.slice xa nx xc,count,.slice ta nt tc,.slice ea ne ec] 146;rw[e1,e2];have hb1:¬Mine b v b1:=H.out.new (J185 _);have HR1:=yA R1;have HK1:=yA K1;have HS0:Hid (zO w1 b v rg n/\zV w1 b v w1 v):=⟨H.out.zG HK1.out,vD⟩;have hlt1:b<w1.heap.size:=HS0.out.1.lt;have y:=R1.zq;have yr:=zL HS0.out.1.regs;have k1:=zF w1;clear e1 e2 R1 K1;go_wp2_with (go_at_call 71;refine(zGD HS0.out.1 ⟨_,_,_,_⟩ (by omega)).mono ?_;rintro e w2 ⟨v1,rfl,h2,r2⟩;have HS1:=yA (And.intro h2 (xP hlt1 HS0.out.2 r2));clear y k1 h2 r2;try clear yr;have y:=(HR1.out.keeps HS1.out.2.keeps hb1).zq;have yr:=zL HS1.out.1.regs;have k1:=zF w2)
 go_returns
 exact⟨v1,n+1,rfl,by omega,by omega,HS1.out.1,uE HK1.out HS1.out.2⟩
theorem zP2{w:World}{b n:Nat}{v:Value}{rg:Int}(h:zO w b v rg n)(d:Int)(reg obj xk xn count:Int)(nm:ByteArray)(xa ta ea:Option Addr)(nx xc nt tc ne ec:Nat)(hxk:xk=0)(hn:n+(2)<1000000):
 Calls Tryz.prog 109 #[.pointer (some ⟨b,0,none⟩),.agg #[(6:Int),reg,obj,xk,xn,nm,.slice xa nx xc,count,.slice ta nt tc,.slice ea ne ec],d] w (zAL zO w b v rg n (2) (.tuple #[])):=by
 subst hxk;have H:=yA h;clear h;go_enter vF,uR
 go_upto_region 1 with fail
 obtain⟨b1,w1,e1,e2,R1,K1,_⟩:=newRow w [(6:Int),reg,obj,(0:Int),xn,nm,.slice xa nx xc,count,.slice ta nt tc,.slice ea ne ec] 146;rw[e1,e2];have hb1:¬Mine b v b1:=H.out.new (J185 _);have HR1:=yA R1;have HK1:=yA K1;have HS0:Hid (zO w1 b v rg n/\zV w1 b v w1 v):=⟨H.out.zG HK1.out,vD⟩;have hlt1:b<w1.heap.size:=HS0.out.1.lt;have y:=R1.zq;have yr:=zL HS0.out.1.regs;have k1:=zF w1;clear e1 e2 R1 K1;go_wp2_with (go_at_call 71;refine(zGD HS0.out.1 ⟨_,_,_,_⟩ (by omega)).mono ?_;rintro e w2 ⟨v1,rfl,h2,r2⟩;have HS1:=yA (And.intro h2 (xP hlt1 HS0.out.2 r2));clear y k1 h2 r2;try clear yr;have y:=(HR1.out.keeps HS1.out.2.keeps hb1).zq;have yr:=zL HS1.out.1.regs;have k1:=zF w2)
 go_returns
 exact⟨v1,n+1,rfl,by omega,by omega,HS1.out.1,uE HK1.out HS1.out.2⟩
theorem zP0{w:World}{b n:Nat}{v:Value}{rg:Int}(h:zO w b v rg n)(d:Int)(reg obj xk xn count:Int)(nm:ByteArray)(xa ta ea:Option Addr)(nx xc nt tc ne ec:Nat)(hxk:xk=0)(hn:n+(2)<1000000):
 Calls Tryz.prog 109 #[.pointer (some ⟨b,0,none⟩),.agg #[(7:Int),reg,obj,xk,xn,nm,.slice xa nx xc,count,.slice ta nt tc,.slice ea ne ec],d] w (zAL zO w b v rg n (2) (.tuple #[])):=by
 subst hxk;have H:=yA h;clear h;go_enter vF,uR
 go_upto_region 1 with fail
 obtain⟨b1,w1,e1,e2,R1,K1,_⟩:=newRow w [(7:Int),reg,obj,(0:Int),xn,nm,.slice xa nx xc,count,.slice ta nt tc,.slice ea ne ec] 146;rw[e1,e2];have hb1:¬Mine b v b1:=H.out.new (J185 _);have HR1:=yA R1;have HK1:=yA K1;have HS0:Hid (zO w1 b v rg n/\zV w1 b v w1 v):=⟨H.out.zG HK1.out,vD⟩;have hlt1:b<w1.heap.size:=HS0.out.1.lt;have y:=R1.zq;have yr:=zL HS0.out.1.regs;have k1:=zF w1;clear e1 e2 R1 K1;go_wp2_with (go_at_call 71;refine(zGD HS0.out.1 ⟨_,_,_,_⟩ (by omega)).mono ?_;rintro e w2 ⟨v1,rfl,h2,r2⟩;have HS1:=yA (And.intro h2 (xP hlt1 HS0.out.2 r2));clear y k1 h2 r2;try clear yr;have y:=(HR1.out.keeps HS1.out.2.keeps hb1).zq;have yr:=zL HS1.out.1.regs;have k1:=zF w2)
 go_returns
 exact⟨v1,n+1,rfl,by omega,by omega,HS1.out.1,uE HK1.out HS1.out.2⟩
theorem zQM{w:World}{b n:Nat}{v:Value}{rg:Int}(h:zO w b v rg n)(d:Int)(reg obj xk xn count:Int)(nm:ByteArray)(xa ta ea:Option Addr)(nx xc nt tc ne ec:Nat)(hxk:xk=0)(hn:n+(2)<1000000):
 Calls Tryz.prog 109 #[.pointer (some ⟨b,0,none⟩),.agg #[(8:Int),reg,obj,xk,xn,nm,.slice xa nx xc,count,.slice ta nt tc,.slice ea ne ec],d] w (zAL zO w b v rg n (2) (.tuple #[])):=by
 subst hxk;have H:=yA h;clear h;go_enter vF,uR
 go_upto_region 1 with fail
 obtain⟨b1,w1,e1,e2,R1,K1,_⟩:=newRow w [(8:Int),reg,obj,(0:Int),xn,nm,.slice xa nx xc,count,.slice ta nt tc,.slice ea ne ec] 146;rw[e1,e2];have hb1:¬Mine b v b1:=H.out.new (J185 _);have HR1:=yA R1;have HK1:=yA K1;have HS0:Hid (zO w1 b v rg n/\zV w1 b v w1 v):=⟨H.out.zG HK1.out,vD⟩;have hlt1:b<w1.heap.size:=HS0.out.1.lt;have y:=R1.zq;have yr:=zL HS0.out.1.regs;have k1:=zF w1;clear e1 e2 R1 K1;go_wp2_with (go_at_call 71;refine(zGD HS0.out.1 ⟨_,_,_,_⟩ (by omega)).mono ?_;rintro e w2 ⟨v1,rfl,h2,r2⟩;have HS1:=yA (And.intro h2 (xP hlt1 HS0.out.2 r2));clear y k1 h2 r2;try clear yr;have y:=(HR1.out.keeps HS1.out.2.keeps hb1).zq;have yr:=zL HS1.out.1.regs;have k1:=zF w2)
 go_returns
 exact⟨v1,n+1,rfl,by omega,by omega,HS1.out.1,uE HK1.out HS1.out.2⟩
theorem zQr{w:World}{b n:Nat}{v:Value}{rg:Int}(h:zO w b v rg n)(d:Int)(reg obj xk xn count:Int)(nm:ByteArray)(xa ta ea:Option Addr)(nx xc nt tc ne ec:Nat)(mx:Nat)(hxk:xk≠0)(HX:Hid (∀W v' n' k,zO W b v' rg n'->zV w b v W v'->n'+mx<1000000->Calls Tryz.prog 161 #[.pointer (some ⟨b,0,none⟩),.int .i64 k,.agg #[xk,xn,nm,.slice xa nx xc]] W (zAL zO W b v' rg n' mx (.tuple #[]))))(hn:n+(mx+2)<1000000):
 Calls Tryz.prog 109 #[.pointer (some ⟨b,0,none⟩),.agg #[(9:Int),reg,obj,xk,xn,nm,.slice xa nx xc,count,.slice ta nt tc,.slice ea ne ec],d] w (zAL zO w b v rg n (mx+2) (.tuple #[])):=by
 have hxb:(xk != 0)=true:=by simpa using hxk
 have H:=yA h;clear h;go_enter vF,uR
 go_upto_region 1 with fail
 obtain⟨b1,w1,e1,e2,R1,K1,_⟩:=newRow w [(9:Int),reg,obj,xk,xn,nm,.slice xa nx xc,count,.slice ta nt tc,.slice ea ne ec] 146;rw[e1,e2];have hb1:¬Mine b v b1:=H.out.new (J185 _);have HR1:=yA R1;have HK1:=yA K1;have HS0:Hid (zO w1 b v rg n/\zV w1 b v w1 v):=⟨H.out.zG HK1.out,vD⟩;have hlt1:b<w1.heap.size:=HS0.out.1.lt;have y:=R1.zq;have yr:=zL HS0.out.1.regs;have k1:=zF w1;clear e1 e2 R1 K1;go_upto_region 4 with(go_at_call 161;refine(HX.out _ _ _ _ HS0.out.1 (uE HK1.out HS0.out.2) (by omega)).mono ?_;rintro e w2 ⟨v1,t1,rfl,l1,u1,h2,r2⟩;have HS1:=yA (And.intro h2 (xP hlt1 HS0.out.2 r2));clear y k1 h2 r2;try clear yr;have y:=(HR1.out.keeps HS1.out.2.keeps hb1).zq;have yr:=zL HS1.out.1.regs;have k1:=zF w2)
 go_wp2_with (go_at_call 71;refine(zCG HS1.out.1 ⟨_,_,_,_⟩ [_] _ (by omega) (by simp)).mono ?_;rintro e w3 ⟨v2,rfl,h2,r2⟩;have HS2:=yA (And.intro h2 (xP hlt1 HS1.out.2 r2));clear y k1 h2 r2;try clear yr;have y:=(HR1.out.keeps HS2.out.2.keeps hb1).zq;have yr:=zL HS2.out.1.regs;have k1:=zF w3)
 go_returns
 exact⟨v2,t1+1,rfl,by omega,by omega,HS2.out.1,uE HK1.out HS2.out.2⟩
theorem zPe{w:World}{b n:Nat}{v:Value}{rg:Int}(h:zO w b v rg n)(d:Int)(reg obj xk xn count:Int)(nm:ByteArray)(xa ta ea:Option Addr)(nx xc nt tc ne ec:Nat)(mx:Nat)(hxk:xk≠0)(HX:Hid (∀W v' n' k,zO W b v' rg n'->zV w b v W v'->n'+mx<1000000->Calls Tryz.prog 161 #[.pointer (some ⟨b,0,none⟩),.int .i64 k,.agg #[xk,xn,nm,.slice xa nx xc]] W (zAL zO W b v' rg n' mx (.tuple #[]))))(mb:Nat)(HB:Hid (∀W v' n' k,zO W b v' rg n'->zV w b v W v'->n'+mb<1000000->Calls Tryz.prog 162 #[.pointer (some ⟨b,0,none⟩),.agg #[(10:Int),reg,obj,xk,xn,nm,.slice xa nx xc,count,.slice ta nt tc,.slice ea ne ec],d,.int .i64 k] W (zAL zO W b v' rg n' mb (.tuple #[]))))(hn:n+(mx+mb)<1000000):
 Calls Tryz.prog 109 #[.pointer (some ⟨b,0,none⟩),.agg #[(10:Int),reg,obj,xk,xn,nm,.slice xa nx xc,count,.slice ta nt tc,.slice ea ne ec],d] w (zAL zO w b v rg n (mx+mb) (.tuple #[])):=by
 have hxb:(xk != 0)=true:=by simpa using hxk
 have H:=yA h;clear h;go_enter vF,uR
 go_upto_region 1 with fail
 obtain⟨b1,w1,e1,e2,R1,K1,_⟩:=newRow w [(10:Int),reg,obj,xk,xn,nm,.slice xa nx xc,count,.slice ta nt tc,.slice ea ne ec] 146;rw[e1,e2];have hb1:¬Mine b v b1:=H.out.new (J185 _);have HR1:=yA R1;have HK1:=yA K1;have HS0:Hid (zO w1 b v rg n/\zV w1 b v w1 v):=⟨H.out.zG HK1.out,vD⟩;have hlt1:b<w1.heap.size:=HS0.out.1.lt;have y:=R1.zq;have yr:=zL HS0.out.1.regs;have k1:=zF w1;clear e1 e2 R1 K1;go_upto_region 4 with(go_at_call 161;refine(HX.out _ _ _ _ HS0.out.1 (uE HK1.out HS0.out.2) (by omega)).mono ?_;rintro e w2 ⟨v1,t1,rfl,l1,u1,h2,r2⟩;have HS1:=yA (And.intro h2 (xP hlt1 HS0.out.2 r2));clear y k1 h2 r2;try clear yr;have y:=(HR1.out.keeps HS1.out.2.keeps hb1).zq;have yr:=zL HS1.out.1.regs;have k1:=zF w2)
 go_wp2_with (go_at_call 162;refine(HB.out _ _ _ _ HS1.out.1 (uE HK1.out HS1.out.2) (by omega)).mono ?_;rintro e w3 ⟨v2,t2,rfl,l2,u2,h2,r2⟩;have HS2:=yA (And.intro h2 (xP hlt1 HS1.out.2 r2));clear y k1 h2 r2;try clear yr;have y:=(HR1.out.keeps HS2.out.2.keeps hb1).zq;have yr:=zL HS2.out.1.regs;have k1:=zF w3)
 go_returns
 exact⟨v2,t2,rfl,by omega,by omega,HS2.out.1,uE HK1.out HS2.out.2⟩
theorem zPA{w:World}{b n:Nat}{v:Value}{rg:Int}(h:zO w b v rg n)(d:Int)(reg obj xk xn count:Int)(nm:ByteArray)(xa ta ea:Option Addr)(nx xc nt tc ne ec:Nat)(hxk:xk=0)(mt:Nat)(HT:Hid (∀W v' n' d,zO W b v' rg n'->zV w b v W v'->n'+mt<1000000->Calls Tryz.prog 70 #[.pointer (some ⟨b,0,none⟩),.slice ta nt tc,.int .i64 d] W (zAL zO W b v' rg n' mt (.tuple #[]))))(hn:n+(mt+2)<1000000):
 Calls Tryz.prog 109 #[.pointer (some ⟨b,0,none⟩),.agg #[(11:Int),reg,obj,xk,xn,nm,.slice xa nx xc,count,.slice ta nt tc,.slice ea ne ec],d] w (zAL zO w b v rg n (mt+2) (.tuple #[])):=by
 subst hxk;have H:=yA h;clear h;go_enter vF,uR
 go_upto_region 1 with fail
 obtain⟨b1,w1,e1,e2,R1,K1,_⟩:=newRow w [(11:Int),reg,obj,(0:Int),xn,nm,.slice xa nx xc,count,.slice ta nt tc,.slice ea ne ec] 146;rw[e1,e2];have hb1:¬Mine b v b1:=H.out.new (J185 _);have HR1:=yA R1;have HK1:=yA K1;have HS0:Hid (zO w1 b v rg n/\zV w1 b v w1 v):=⟨H.out.zG HK1.out,vD⟩;have hlt1:b<w1.heap.size:=HS0.out.1.lt;have y:=R1.zq;have yr:=zL HS0.out.1.regs;have k1:=zF w1;clear e1 e2 R1 K1;by_cases hc:count=0
 ·subst hc
  go_wp2_with fail
  go_returns
  exact⟨v,n,rfl,by omega,by omega,HS0.out.1,uE HK1.out HS0.out.2⟩
 ·have hcb:(count==0)=false:=by simpa using hc
  go_upto_region 25 with(go_at_call 71;refine(zCG HS0.out.1 ⟨_,_,_,_⟩ [_] _ (by omega) (by simp)).mono ?_;rintro e w2 ⟨v1,rfl,h2,r2⟩;have HS1:=yA (And.intro h2 (xP hlt1 HS0.out.2 r2));clear y k1 h2 r2;try clear yr;have y:=(HR1.out.keeps HS1.out.2.keeps hb1).zq;have yr:=zL HS1.out.1.regs;have k1:=zF w2)
  go_upto_region 26 with(go_at_call 70;refine(HT.out _ _ _ _ HS1.out.1 (uE HK1.out HS1.out.2) (by omega)).mono ?_;rintro e w3 ⟨v2,t2,rfl,l2,u2,h2,r2⟩;have HS2:=yA (And.intro h2 (xP hlt1 HS1.out.2 r2));clear y k1 h2 r2;try clear yr;have y:=(HR1.out.keeps HS2.out.2.keeps hb1).zq;have yr:=zL HS2.out.1.regs;have k1:=zF w3)
  go_wp2_with (go_at_call 71;refine(zCG HS2.out.1 ⟨_,_,_,_⟩ [_] _ (by omega) (by simp)).mono ?_;rintro e w4 ⟨v3,rfl,h2,r2⟩;have HS3:=yA (And.intro h2 (xP hlt1 HS2.out.2 r2));clear y k1 h2 r2;try clear yr;have y:=(HR1.out.keeps HS3.out.2.keeps hb1).zq;have yr:=zL HS3.out.1.regs;have k1:=zF w4)
  go_returns
  exact⟨v3,t2+1,rfl,by omega,by omega,HS3.out.1,uE HK1.out HS3.out.2⟩
theorem zOb{w:World}{b n:Nat}{v:Value}{rg:Int}(h:zO w b v rg n)(d k:Int)(reg obj xk xn count:Int)(nm:ByteArray)(xa ta ea:Option Addr)(nx xc nt tc ne ec:Nat)(mt me:Nat)(HT:Hid (∀W v' n' d,zO W b v' rg n'->zV w b v W v'->n'+mt<1000000->Calls Tryz.prog 70 #[.pointer (some ⟨b,0,none⟩),.slice ta nt tc,.int .i64 d] W (zAL zO W b v' rg n' mt (.tuple #[]))))(HE:Hid (∀W v' n' d,zO W b v' rg n'->zV w b v W v'->n'+me<1000000->Calls Tryz.prog 70 #[.pointer (some ⟨b,0,none⟩),.slice ea ne ec,.int .i64 d] W (zAL zO W b v' rg n' me (.tuple #[]))))(hne:ne<1000000)(hn:n+(mt+me+2)<1000000):
 Calls Tryz.prog 162 #[.pointer (some ⟨b,0,none⟩),.agg #[(10:Int),reg,obj,xk,xn,nm,.slice xa nx xc,count,.slice ta nt tc,.slice ea ne ec],d,k] w (zAL zO w b v rg n (mt+me+2) (.tuple #[])):=by
 have H:=yA h;clear h;go_enter Tryz.func162,Tryz.ntmps162
 go_upto_region 1 with fail
 obtain⟨b1,w1,e1,e2,R1,K1,_⟩:=newRow w [(10:Int),reg,obj,xk,xn,nm,.slice xa nx xc,count,.slice ta nt tc,.slice ea ne ec] 146;rw[e1,e2];have hb1:¬Mine b v b1:=H.out.new (J185 _);have HR1:=yA R1;have HK1:=yA K1;have HS0:Hid (zO w1 b v rg n/\zV w1 b v w1 v):=⟨H.out.zG HK1.out,vD⟩;have hlt1:b<w1.heap.size:=HS0.out.1.lt;have y:=R1.zq;have yr:=zL HS0.out.1.regs;have k1:=zF w1;clear e1 e2 R1 K1;go_upto_region 2 with(go_at_call 71;refine(zCG HS0.out.1 ⟨_,_,_,_⟩ [_] _ (by omega) (by simp)).mono ?_;rintro e w2 ⟨v1,rfl,h2,r2⟩;have HS1:=yA (And.intro h2 (xP hlt1 HS0.out.2 r2));clear y k1 h2 r2;try clear yr;have y:=(HR1.out.keeps HS1.out.2.keeps hb1).zq;have yr:=zL HS1.out.1.regs;have k1:=zF w2)
 go_upto_region 3 with(go_at_call 70;refine(HT.out _ _ _ _ HS1.out.1 (uE HK1.out HS1.out.2) (by omega)).mono ?_;rintro e w3 ⟨v2,t2,rfl,l2,u2,h2,r2⟩;have HS2:=yA (And.intro h2 (xP hlt1 HS1.out.2 r2));clear y k1 h2 r2;try clear yr;have y:=(HR1.out.keeps HS2.out.2.keeps hb1).zq;have yr:=zL HS2.out.1.regs;have k1:=zF w3)
 by_cases he:ne=0
 ·subst he
  go_upto_region 8 with fail
  obtain⟨g,cap,hv,z0,z1,z2,z3⟩:=HS2.out.1.at (i:=n) (by omega);have i1:(0:Int)<=(n:Nat):=by omega
  have i2:((n:Nat):Int)<(t2:Nat):=by omega
  obtain⟨u0,zc⟩:=z1 2 (by decide);have zf:=z2 (n*4+2);have HZ:=yA (z3 2 (by decide) ((t2:Nat)));clear z1 z2 z3 y yr;go_region
  go_wp2_with fail
  go_returns
  exact⟨v2,t2,rfl,by omega,by omega,HZ.out.1.zG ((yB zA _).drew),(uE HK1.out (xP hlt1 HS2.out.2 HZ.out.2)).post ((yB zA _).drew)⟩
 ·have hn1:(0:Int)<ne:=by omega
  go_upto_region 5 with(go_at_call 71;refine(zGD HS2.out.1 ⟨_,_,_,_⟩ (by omega)).mono ?_;rintro e w4 ⟨v3,rfl,h2,r2⟩;have HS3:=yA (And.intro h2 (xP hlt1 HS2.out.2 r2));clear y k1 h2 r2;try clear yr;have y:=(HR1.out.keeps HS3.out.2.keeps hb1).zq;have yr:=zL HS3.out.1.regs;have k1:=zF w4)
  obtain⟨g,cap,hv,z0,z1,z2,z3⟩:=HS3.out.1.at (i:=n) (by omega);have i1:(0:Int)<=(n:Nat):=by omega
  have i2:((n:Nat):Int)<(t2+1:Nat):=by omega
  obtain⟨u0,zc⟩:=z1 2 (by decide);have zf:=z2 (n*4+2);have HZ:=yA (z3 2 (by decide) ((t2:Int)+1));clear z1 z2 z3 y yr;go_region
  have HS4:Hid (zO _ b v3 rg (t2+1)/\zV w1 b v _ v3):=⟨HZ.out.1.zG ((yB zA _).drew),(xP hlt1 HS3.out.2 HZ.out.2).post ((yB zA _).drew)⟩;clear zc zf z0;generalize hw:(World.drew _)=w5 at HS4 ⊢;clear hw HZ;have y:=(HR1.out.keeps HS4.out.2.keeps hb1).zq;have yr:=zL HS4.out.1.regs;have k1:=zF w5;go_upto_region 7 with(go_at_call 70;refine(HE.out _ _ _ _ HS4.out.1 (uE HK1.out HS4.out.2) (by omega)).mono ?_;rintro e w6 ⟨v5,t5,rfl,l5,u5,h2,r2⟩;have HS5:=yA (And.intro h2 (xP hlt1 HS4.out.2 r2));clear y k1 h2 r2;try clear yr;have y:=(HR1.out.keeps HS5.out.2.keeps hb1).zq;have yr:=zL HS5.out.1.regs;have k1:=zF w6)
  obtain⟨g,cap,hv,z0,z1,z2,z3⟩:=HS5.out.1.at (i:=t2) (by omega);have i1:(0:Int)<=(t2:Nat):=by omega
  have i2:((t2:Nat):Int)<(t5:Nat):=by omega
  obtain⟨u0,zc⟩:=z1 1 (by decide);have zf:=z2 (t2*4+1);have HZ:=yA (z3 1 (by decide) ((t5:Nat)));clear z1 z2 z3 y yr;go_region
  go_wp2_with fail
  go_returns
  exact⟨v5,t5,rfl,by omega,by omega,HZ.out.1.zG ((yB zA _).drew),(uE HK1.out (xP hlt1 HS5.out.2 HZ.out.2)).post ((yB zA _).drew)⟩
