/- Layer N: texts joined. -/
import Derived.Test.YtoapgjjepiopbaaGreatDoorN15
set_option linter.all false
set_option maxHeartbeats 4000000
set_option maxRecDepth 8000
namespace Go.Proofs.YtoapgjjepiopbaaGreatDoor
open Go.RowKit
theorem J166 (P:Prop) (h:P:=by rw [e1];exact Nat.le_refl _):P:=h
theorem zNh {w:World} {b n:Nat} {v:Value} {rg:Int} (h:zN w b v rg n) (d:Int) (reg obj xk xn count:Int) (nm:ByteArray) (xa ta ea:Option Addr) (nx xc nt tc ne ec:Nat) (mx:Nat) (hxk:xk ≠ 0) (HX:Hid (∀ W v' n' k,zN W b v' rg n' -> zK w b v W v' -> n'+mx < 1000000 -> Calls Tryz.prog 161 #[.pointer (some ⟨b,0,none⟩), .int .i64 k, .agg #[.int .i64 xk, .int .i64 xn, .string nm, .slice xa nx xc]] W (zh zN W b v' rg n' mx (.tuple #[])))) (hn:n+(mx+2) < 1000000) :
 Calls Tryz.prog 109 #[.pointer (some ⟨b,0,none⟩), .agg #[.int .i64 1, .int .i64 reg, .int .i64 obj, .int .i64 xk, .int .i64 xn, .string nm, .slice xa nx xc, .int .i64 count, .slice ta nt tc, .slice ea ne ec], .int .i64 d] w (zh zN w b v rg n (mx+2) (.tuple #[])):=by
 have hxb:(xk != 0)=true:=by simpa using hxk
 have H:=Lib.hid h;clear h;go_enter Tryz.func109,Tryz.ntmps109
 go_upto_region 1 with fail
 obtain ⟨b1,w1,e1,e2,R1,K1,_⟩:=newRow w [.int .i64 1, .int .i64 reg, .int .i64 obj, .int .i64 xk, .int .i64 xn, .string nm, .slice xa nx xc, .int .i64 count, .slice ta nt tc, .slice ea ne ec] 146;rw [e1,e2];have hb1:¬ Mine b v b1:=H.out.new (J166 _);have HR1:=Lib.hid R1;have HK1:=Lib.hid K1;have HS0:Hid (zN w1 b v rg n /\ zK w1 b v w1 v):=⟨H.out.zD HK1.out,zK.refl⟩;have hlt1:b < w1.heap.size:=HS0.out.1.lt;have y:=R1.zl;have yr:=zL HS0.out.1.regs;have k1:=zH w1;clear e1 e2 R1 K1;go_upto_region 4 with (go_at_call 161;refine (HX.out _ _ _ _ HS0.out.1 (zK.pre HK1.out HS0.out.2) (by omega)).mono ?_;rintro e w2 ⟨v1,t1,rfl,l1,u1,h2,r2⟩;have HS1:=Lib.hid (And.intro h2 (zK.trans hlt1 HS0.out.2 r2));clear y k1 h2 r2;try clear yr;have y:=(HR1.out.keeps HS1.out.2.keeps hb1).zl;have yr:=zL HS1.out.1.regs;have k1:=zH w2)
 go_wp2_with (go_at_call 71;refine (zBR HS1.out.1 ⟨_,_,_,_⟩ [reg,_] _ (by omega) (by simp)).mono ?_;rintro e w3 ⟨v2,rfl,h2,r2⟩;have HS2:=Lib.hid (And.intro h2 (zK.trans hlt1 HS1.out.2 r2));clear y k1 h2 r2;try clear yr;have y:=(HR1.out.keeps HS2.out.2.keeps hb1).zl;have yr:=zL HS2.out.1.regs;have k1:=zH w3)
 go_returns
 exact ⟨v2,t1+1,rfl,by omega,by omega,HS2.out.1,zK.pre HK1.out HS2.out.2⟩
theorem zN6 {w:World} {b n:Nat} {v:Value} {rg:Int} (h:zN w b v rg n) (d:Int) (reg obj xk xn count:Int) (nm:ByteArray) (xa ta ea:Option Addr) (nx xc nt tc ne ec:Nat) (hxk:xk=0) (hn:n+(2) < 1000000) :
 Calls Tryz.prog 109 #[.pointer (some ⟨b,0,none⟩), .agg #[.int .i64 2, .int .i64 reg, .int .i64 obj, .int .i64 xk, .int .i64 xn, .string nm, .slice xa nx xc, .int .i64 count, .slice ta nt tc, .slice ea ne ec], .int .i64 d] w (zh zN w b v rg n (2) (.tuple #[])):=by
 subst hxk;have H:=Lib.hid h;clear h;go_enter Tryz.func109,Tryz.ntmps109
 go_upto_region 1 with fail
 obtain ⟨b1,w1,e1,e2,R1,K1,_⟩:=newRow w [.int .i64 2, .int .i64 reg, .int .i64 obj, .int .i64 0, .int .i64 xn, .string nm, .slice xa nx xc, .int .i64 count, .slice ta nt tc, .slice ea ne ec] 146;rw [e1,e2];have hb1:¬ Mine b v b1:=H.out.new (J166 _);have HR1:=Lib.hid R1;have HK1:=Lib.hid K1;have HS0:Hid (zN w1 b v rg n /\ zK w1 b v w1 v):=⟨H.out.zD HK1.out,zK.refl⟩;have hlt1:b < w1.heap.size:=HS0.out.1.lt;have y:=R1.zl;have yr:=zL HS0.out.1.regs;have k1:=zH w1;clear e1 e2 R1 K1;go_wp2_with (go_at_call 71;refine (zBR HS0.out.1 ⟨_,_,_,_⟩ [reg] _ (by omega) (by simp)).mono ?_;rintro e w2 ⟨v1,rfl,h2,r2⟩;have HS1:=Lib.hid (And.intro h2 (zK.trans hlt1 HS0.out.2 r2));clear y k1 h2 r2;try clear yr;have y:=(HR1.out.keeps HS1.out.2.keeps hb1).zl;have yr:=zL HS1.out.1.regs;have k1:=zH w2)
 go_returns
 exact ⟨v1,n+1,rfl,by omega,by omega,HS1.out.1,zK.pre HK1.out HS1.out.2⟩
theorem zNX {w:World} {b n:Nat} {v:Value} {rg:Int} (h:zN w b v rg n) (d:Int) (reg obj xk xn count:Int) (nm:ByteArray) (xa ta ea:Option Addr) (nx xc nt tc ne ec:Nat) (mx:Nat) (hxk:xk ≠ 0) (HX:Hid (∀ W v' n' k,zN W b v' rg n' -> zK w b v W v' -> n'+mx < 1000000 -> Calls Tryz.prog 161 #[.pointer (some ⟨b,0,none⟩), .int .i64 k, .agg #[.int .i64 xk, .int .i64 xn, .string nm, .slice xa nx xc]] W (zh zN W b v' rg n' mx (.tuple #[])))) (hn:n+(mx+2) < 1000000) :
 Calls Tryz.prog 109 #[.pointer (some ⟨b,0,none⟩), .agg #[.int .i64 3, .int .i64 reg, .int .i64 obj, .int .i64 xk, .int .i64 xn, .string nm, .slice xa nx xc, .int .i64 count, .slice ta nt tc, .slice ea ne ec], .int .i64 d] w (zh zN w b v rg n (mx+2) (.tuple #[])):=by
 have hxb:(xk != 0)=true:=by simpa using hxk
 have H:=Lib.hid h;clear h;go_enter Tryz.func109,Tryz.ntmps109
 go_upto_region 1 with fail
 obtain ⟨b1,w1,e1,e2,R1,K1,_⟩:=newRow w [.int .i64 3, .int .i64 reg, .int .i64 obj, .int .i64 xk, .int .i64 xn, .string nm, .slice xa nx xc, .int .i64 count, .slice ta nt tc, .slice ea ne ec] 146;rw [e1,e2];have hb1:¬ Mine b v b1:=H.out.new (J166 _);have HR1:=Lib.hid R1;have HK1:=Lib.hid K1;have HS0:Hid (zN w1 b v rg n /\ zK w1 b v w1 v):=⟨H.out.zD HK1.out,zK.refl⟩;have hlt1:b < w1.heap.size:=HS0.out.1.lt;have y:=R1.zl;have yr:=zL HS0.out.1.regs;have k1:=zH w1;clear e1 e2 R1 K1;go_upto_region 4 with (go_at_call 161;refine (HX.out _ _ _ _ HS0.out.1 (zK.pre HK1.out HS0.out.2) (by omega)).mono ?_;rintro e w2 ⟨v1,t1,rfl,l1,u1,h2,r2⟩;have HS1:=Lib.hid (And.intro h2 (zK.trans hlt1 HS0.out.2 r2));clear y k1 h2 r2;try clear yr;have y:=(HR1.out.keeps HS1.out.2.keeps hb1).zl;have yr:=zL HS1.out.1.regs;have k1:=zH w2)
 go_wp2_with (go_at_call 71;refine (zBR HS1.out.1 ⟨_,_,_,_⟩ [_] _ (by omega) (by simp)).mono ?_;rintro e w3 ⟨v2,rfl,h2,r2⟩;have HS2:=Lib.hid (And.intro h2 (zK.trans hlt1 HS1.out.2 r2));clear y k1 h2 r2;try clear yr;have y:=(HR1.out.keeps HS2.out.2.keeps hb1).zl;have yr:=zL HS2.out.1.regs;have k1:=zH w3)
 go_returns
 exact ⟨v2,t1+1,rfl,by omega,by omega,HS2.out.1,zK.pre HK1.out HS2.out.2⟩
theorem zNr {w:World} {b n:Nat} {v:Value} {rg:Int} (h:zN w b v rg n) (d:Int) (reg obj xk xn count:Int) (nm:ByteArray) (xa ta ea:Option Addr) (nx xc nt tc ne ec:Nat) (mx:Nat) (hxk:xk ≠ 0) (HX:Hid (∀ W v' n' k,zN W b v' rg n' -> zK w b v W v' -> n'+mx < 1000000 -> Calls Tryz.prog 161 #[.pointer (some ⟨b,0,none⟩), .int .i64 k, .agg #[.int .i64 xk, .int .i64 xn, .string nm, .slice xa nx xc]] W (zh zN W b v' rg n' mx (.tuple #[])))) (hn:n+(mx+2) < 1000000) :
 Calls Tryz.prog 109 #[.pointer (some ⟨b,0,none⟩), .agg #[.int .i64 4, .int .i64 reg, .int .i64 obj, .int .i64 xk, .int .i64 xn, .string nm, .slice xa nx xc, .int .i64 count, .slice ta nt tc, .slice ea ne ec], .int .i64 d] w (zh zN w b v rg n (mx+2) (.tuple #[])):=by
 have hxb:(xk != 0)=true:=by simpa using hxk
 have H:=Lib.hid h;clear h;go_enter Tryz.func109,Tryz.ntmps109
 go_upto_region 1 with fail
 obtain ⟨b1,w1,e1,e2,R1,K1,_⟩:=newRow w [.int .i64 4, .int .i64 reg, .int .i64 obj, .int .i64 xk, .int .i64 xn, .string nm, .slice xa nx xc, .int .i64 count, .slice ta nt tc, .slice ea ne ec] 146;rw [e1,e2];have hb1:¬ Mine b v b1:=H.out.new (J166 _);have HR1:=Lib.hid R1;have HK1:=Lib.hid K1;have HS0:Hid (zN w1 b v rg n /\ zK w1 b v w1 v):=⟨H.out.zD HK1.out,zK.refl⟩;have hlt1:b < w1.heap.size:=HS0.out.1.lt;have y:=R1.zl;have yr:=zL HS0.out.1.regs;have k1:=zH w1;clear e1 e2 R1 K1;go_upto_region 4 with (go_at_call 161;refine (HX.out _ _ _ _ HS0.out.1 (zK.pre HK1.out HS0.out.2) (by omega)).mono ?_;rintro e w2 ⟨v1,t1,rfl,l1,u1,h2,r2⟩;have HS1:=Lib.hid (And.intro h2 (zK.trans hlt1 HS0.out.2 r2));clear y k1 h2 r2;try clear yr;have y:=(HR1.out.keeps HS1.out.2.keeps hb1).zl;have yr:=zL HS1.out.1.regs;have k1:=zH w2)
 go_wp2_with (go_at_call 71;refine (zBR HS1.out.1 ⟨_,_,_,_⟩ [reg,_] _ (by omega) (by simp)).mono ?_;rintro e w3 ⟨v2,rfl,h2,r2⟩;have HS2:=Lib.hid (And.intro h2 (zK.trans hlt1 HS1.out.2 r2));clear y k1 h2 r2;try clear yr;have y:=(HR1.out.keeps HS2.out.2.keeps hb1).zl;have yr:=zL HS2.out.1.regs;have k1:=zH w3)
 go_returns
 exact ⟨v2,t1+1,rfl,by omega,by omega,HS2.out.1,zK.pre HK1.out HS2.out.2⟩
theorem zNs {w:World} {b n:Nat} {v:Value} {rg:Int} (h:zN w b v rg n) (d:Int) (reg obj xk xn count:Int) (nm:ByteArray) (xa ta ea:Option Addr) (nx xc nt tc ne ec:Nat) (hxk:xk=0) (hn:n+(2) < 1000000) :
 Calls Tryz.prog 109 #[.pointer (some ⟨b,0,none⟩), .agg #[.int .i64 5, .int .i64 reg, .int .i64 obj, .int .i64 xk, .int .i64 xn, .string nm, .slice xa nx xc, .int .i64 count, .slice ta nt tc, .slice ea ne ec], .int .i64 d] w (zh zN w b v rg n (2) (.tuple #[])):=by
 subst hxk;have H:=Lib.hid h;clear h;go_enter Tryz.func109,Tryz.ntmps109
 go_upto_region 1 with fail
 obtain ⟨b1,w1,e1,e2,R1,K1,_⟩:=newRow w [.int .i64 5, .int .i64 reg, .int .i64 obj, .int .i64 0, .int .i64 xn, .string nm, .slice xa nx xc, .int .i64 count, .slice ta nt tc, .slice ea ne ec] 146;rw [e1,e2];have hb1:¬ Mine b v b1:=H.out.new (J166 _);have HR1:=Lib.hid R1;have HK1:=Lib.hid K1;have HS0:Hid (zN w1 b v rg n /\ zK w1 b v w1 v):=⟨H.out.zD HK1.out,zK.refl⟩;have hlt1:b < w1.heap.size:=HS0.out.1.lt;have y:=R1.zl;have yr:=zL HS0.out.1.regs;have k1:=zH w1;clear e1 e2 R1 K1;go_wp2_with (go_at_call 71;refine (zFa HS0.out.1 ⟨_,_,_,_⟩ (by omega)).mono ?_;rintro e w2 ⟨v1,rfl,h2,r2⟩;have HS1:=Lib.hid (And.intro h2 (zK.trans hlt1 HS0.out.2 r2));clear y k1 h2 r2;try clear yr;have y:=(HR1.out.keeps HS1.out.2.keeps hb1).zl;have yr:=zL HS1.out.1.regs;have k1:=zH w2)
 go_returns
 exact ⟨v1,n+1,rfl,by omega,by omega,HS1.out.1,zK.pre HK1.out HS1.out.2⟩
theorem zOF {w:World} {b n:Nat} {v:Value} {rg:Int} (h:zN w b v rg n) (d:Int) (reg obj xk xn count:Int) (nm:ByteArray) (xa ta ea:Option Addr) (nx xc nt tc ne ec:Nat) (hxk:xk=0) (hn:n+(2) < 1000000) :
 Calls Tryz.prog 109 #[.pointer (some ⟨b,0,none⟩), .agg #[.int .i64 6, .int .i64 reg, .int .i64 obj, .int .i64 xk, .int .i64 xn, .string nm, .slice xa nx xc, .int .i64 count, .slice ta nt tc, .slice ea ne ec], .int .i64 d] w (zh zN w b v rg n (2) (.tuple #[])):=by
 subst hxk;have H:=Lib.hid h;clear h;go_enter Tryz.func109,Tryz.ntmps109
 go_upto_region 1 with fail
 obtain ⟨b1,w1,e1,e2,R1,K1,_⟩:=newRow w [.int .i64 6, .int .i64 reg, .int .i64 obj, .int .i64 0, .int .i64 xn, .string nm, .slice xa nx xc, .int .i64 count, .slice ta nt tc, .slice ea ne ec] 146;rw [e1,e2];have hb1:¬ Mine b v b1:=H.out.new (J166 _);have HR1:=Lib.hid R1;have HK1:=Lib.hid K1;have HS0:Hid (zN w1 b v rg n /\ zK w1 b v w1 v):=⟨H.out.zD HK1.out,zK.refl⟩;have hlt1:b < w1.heap.size:=HS0.out.1.lt;have y:=R1.zl;have yr:=zL HS0.out.1.regs;have k1:=zH w1;clear e1 e2 R1 K1;go_wp2_with (go_at_call 71;refine (zFa HS0.out.1 ⟨_,_,_,_⟩ (by omega)).mono ?_;rintro e w2 ⟨v1,rfl,h2,r2⟩;have HS1:=Lib.hid (And.intro h2 (zK.trans hlt1 HS0.out.2 r2));clear y k1 h2 r2;try clear yr;have y:=(HR1.out.keeps HS1.out.2.keeps hb1).zl;have yr:=zL HS1.out.1.regs;have k1:=zH w2)
 go_returns
 exact ⟨v1,n+1,rfl,by omega,by omega,HS1.out.1,zK.pre HK1.out HS1.out.2⟩
theorem zNR {w:World} {b n:Nat} {v:Value} {rg:Int} (h:zN w b v rg n) (d:Int) (reg obj xk xn count:Int) (nm:ByteArray) (xa ta ea:Option Addr) (nx xc nt tc ne ec:Nat) (hxk:xk=0) (hn:n+(2) < 1000000) :
 Calls Tryz.prog 109 #[.pointer (some ⟨b,0,none⟩), .agg #[.int .i64 7, .int .i64 reg, .int .i64 obj, .int .i64 xk, .int .i64 xn, .string nm, .slice xa nx xc, .int .i64 count, .slice ta nt tc, .slice ea ne ec], .int .i64 d] w (zh zN w b v rg n (2) (.tuple #[])):=by
 subst hxk;have H:=Lib.hid h;clear h;go_enter Tryz.func109,Tryz.ntmps109
 go_upto_region 1 with fail
 obtain ⟨b1,w1,e1,e2,R1,K1,_⟩:=newRow w [.int .i64 7, .int .i64 reg, .int .i64 obj, .int .i64 0, .int .i64 xn, .string nm, .slice xa nx xc, .int .i64 count, .slice ta nt tc, .slice ea ne ec] 146;rw [e1,e2];have hb1:¬ Mine b v b1:=H.out.new (J166 _);have HR1:=Lib.hid R1;have HK1:=Lib.hid K1;have HS0:Hid (zN w1 b v rg n /\ zK w1 b v w1 v):=⟨H.out.zD HK1.out,zK.refl⟩;have hlt1:b < w1.heap.size:=HS0.out.1.lt;have y:=R1.zl;have yr:=zL HS0.out.1.regs;have k1:=zH w1;clear e1 e2 R1 K1;go_wp2_with (go_at_call 71;refine (zFa HS0.out.1 ⟨_,_,_,_⟩ (by omega)).mono ?_;rintro e w2 ⟨v1,rfl,h2,r2⟩;have HS1:=Lib.hid (And.intro h2 (zK.trans hlt1 HS0.out.2 r2));clear y k1 h2 r2;try clear yr;have y:=(HR1.out.keeps HS1.out.2.keeps hb1).zl;have yr:=zL HS1.out.1.regs;have k1:=zH w2)
 go_returns
 exact ⟨v1,n+1,rfl,by omega,by omega,HS1.out.1,zK.pre HK1.out HS1.out.2⟩
theorem zNT {w:World} {b n:Nat} {v:Value} {rg:Int} (h:zN w b v rg n) (d:Int) (reg obj xk xn count:Int) (nm:ByteArray) (xa ta ea:Option Addr) (nx xc nt tc ne ec:Nat) (hxk:xk=0) (hn:n+(2) < 1000000) :
 Calls Tryz.prog 109 #[.pointer (some ⟨b,0,none⟩), .agg #[.int .i64 8, .int .i64 reg, .int .i64 obj, .int .i64 xk, .int .i64 xn, .string nm, .slice xa nx xc, .int .i64 count, .slice ta nt tc, .slice ea ne ec], .int .i64 d] w (zh zN w b v rg n (2) (.tuple #[])):=by
 subst hxk;have H:=Lib.hid h;clear h;go_enter Tryz.func109,Tryz.ntmps109
 go_upto_region 1 with fail
 obtain ⟨b1,w1,e1,e2,R1,K1,_⟩:=newRow w [.int .i64 8, .int .i64 reg, .int .i64 obj, .int .i64 0, .int .i64 xn, .string nm, .slice xa nx xc, .int .i64 count, .slice ta nt tc, .slice ea ne ec] 146;rw [e1,e2];have hb1:¬ Mine b v b1:=H.out.new (J166 _);have HR1:=Lib.hid R1;have HK1:=Lib.hid K1;have HS0:Hid (zN w1 b v rg n /\ zK w1 b v w1 v):=⟨H.out.zD HK1.out,zK.refl⟩;have hlt1:b < w1.heap.size:=HS0.out.1.lt;have y:=R1.zl;have yr:=zL HS0.out.1.regs;have k1:=zH w1;clear e1 e2 R1 K1;go_wp2_with (go_at_call 71;refine (zFa HS0.out.1 ⟨_,_,_,_⟩ (by omega)).mono ?_;rintro e w2 ⟨v1,rfl,h2,r2⟩;have HS1:=Lib.hid (And.intro h2 (zK.trans hlt1 HS0.out.2 r2));clear y k1 h2 r2;try clear yr;have y:=(HR1.out.keeps HS1.out.2.keeps hb1).zl;have yr:=zL HS1.out.1.regs;have k1:=zH w2)
 go_returns
 exact ⟨v1,n+1,rfl,by omega,by omega,HS1.out.1,zK.pre HK1.out HS1.out.2⟩
theorem zNa {w:World} {b n:Nat} {v:Value} {rg:Int} (h:zN w b v rg n) (d:Int) (reg obj xk xn count:Int) (nm:ByteArray) (xa ta ea:Option Addr) (nx xc nt tc ne ec:Nat) (mx:Nat) (hxk:xk ≠ 0) (HX:Hid (∀ W v' n' k,zN W b v' rg n' -> zK w b v W v' -> n'+mx < 1000000 -> Calls Tryz.prog 161 #[.pointer (some ⟨b,0,none⟩), .int .i64 k, .agg #[.int .i64 xk, .int .i64 xn, .string nm, .slice xa nx xc]] W (zh zN W b v' rg n' mx (.tuple #[])))) (hn:n+(mx+2) < 1000000) :
 Calls Tryz.prog 109 #[.pointer (some ⟨b,0,none⟩), .agg #[.int .i64 9, .int .i64 reg, .int .i64 obj, .int .i64 xk, .int .i64 xn, .string nm, .slice xa nx xc, .int .i64 count, .slice ta nt tc, .slice ea ne ec], .int .i64 d] w (zh zN w b v rg n (mx+2) (.tuple #[])):=by
 have hxb:(xk != 0)=true:=by simpa using hxk
 have H:=Lib.hid h;clear h;go_enter Tryz.func109,Tryz.ntmps109
 go_upto_region 1 with fail
 obtain ⟨b1,w1,e1,e2,R1,K1,_⟩:=newRow w [.int .i64 9, .int .i64 reg, .int .i64 obj, .int .i64 xk, .int .i64 xn, .string nm, .slice xa nx xc, .int .i64 count, .slice ta nt tc, .slice ea ne ec] 146;rw [e1,e2];have hb1:¬ Mine b v b1:=H.out.new (J166 _);have HR1:=Lib.hid R1;have HK1:=Lib.hid K1;have HS0:Hid (zN w1 b v rg n /\ zK w1 b v w1 v):=⟨H.out.zD HK1.out,zK.refl⟩;have hlt1:b < w1.heap.size:=HS0.out.1.lt;have y:=R1.zl;have yr:=zL HS0.out.1.regs;have k1:=zH w1;clear e1 e2 R1 K1;go_upto_region 4 with (go_at_call 161;refine (HX.out _ _ _ _ HS0.out.1 (zK.pre HK1.out HS0.out.2) (by omega)).mono ?_;rintro e w2 ⟨v1,t1,rfl,l1,u1,h2,r2⟩;have HS1:=Lib.hid (And.intro h2 (zK.trans hlt1 HS0.out.2 r2));clear y k1 h2 r2;try clear yr;have y:=(HR1.out.keeps HS1.out.2.keeps hb1).zl;have yr:=zL HS1.out.1.regs;have k1:=zH w2)
 go_wp2_with (go_at_call 71;refine (zBR HS1.out.1 ⟨_,_,_,_⟩ [_] _ (by omega) (by simp)).mono ?_;rintro e w3 ⟨v2,rfl,h2,r2⟩;have HS2:=Lib.hid (And.intro h2 (zK.trans hlt1 HS1.out.2 r2));clear y k1 h2 r2;try clear yr;have y:=(HR1.out.keeps HS2.out.2.keeps hb1).zl;have yr:=zL HS2.out.1.regs;have k1:=zH w3)
 go_returns
 exact ⟨v2,t1+1,rfl,by omega,by omega,HS2.out.1,zK.pre HK1.out HS2.out.2⟩
theorem zMb {w:World} {b n:Nat} {v:Value} {rg:Int} (h:zN w b v rg n) (d:Int) (reg obj xk xn count:Int) (nm:ByteArray) (xa ta ea:Option Addr) (nx xc nt tc ne ec:Nat) (mx:Nat) (hxk:xk ≠ 0) (HX:Hid (∀ W v' n' k,zN W b v' rg n' -> zK w b v W v' -> n'+mx < 1000000 -> Calls Tryz.prog 161 #[.pointer (some ⟨b,0,none⟩), .int .i64 k, .agg #[.int .i64 xk, .int .i64 xn, .string nm, .slice xa nx xc]] W (zh zN W b v' rg n' mx (.tuple #[])))) (mb:Nat) (HB:Hid (∀ W v' n' k,zN W b v' rg n' -> zK w b v W v' -> n'+mb < 1000000 -> Calls Tryz.prog 162 #[.pointer (some ⟨b,0,none⟩), .agg #[.int .i64 10, .int .i64 reg, .int .i64 obj, .int .i64 xk, .int .i64 xn, .string nm, .slice xa nx xc, .int .i64 count, .slice ta nt tc, .slice ea ne ec], .int .i64 d, .int .i64 k] W (zh zN W b v' rg n' mb (.tuple #[])))) (hn:n+(mx+mb) < 1000000) :
 Calls Tryz.prog 109 #[.pointer (some ⟨b,0,none⟩), .agg #[.int .i64 10, .int .i64 reg, .int .i64 obj, .int .i64 xk, .int .i64 xn, .string nm, .slice xa nx xc, .int .i64 count, .slice ta nt tc, .slice ea ne ec], .int .i64 d] w (zh zN w b v rg n (mx+mb) (.tuple #[])):=by
 have hxb:(xk != 0)=true:=by simpa using hxk
 have H:=Lib.hid h;clear h;go_enter Tryz.func109,Tryz.ntmps109
 go_upto_region 1 with fail
 obtain ⟨b1,w1,e1,e2,R1,K1,_⟩:=newRow w [.int .i64 10, .int .i64 reg, .int .i64 obj, .int .i64 xk, .int .i64 xn, .string nm, .slice xa nx xc, .int .i64 count, .slice ta nt tc, .slice ea ne ec] 146;rw [e1,e2];have hb1:¬ Mine b v b1:=H.out.new (J166 _);have HR1:=Lib.hid R1;have HK1:=Lib.hid K1;have HS0:Hid (zN w1 b v rg n /\ zK w1 b v w1 v):=⟨H.out.zD HK1.out,zK.refl⟩;have hlt1:b < w1.heap.size:=HS0.out.1.lt;have y:=R1.zl;have yr:=zL HS0.out.1.regs;have k1:=zH w1;clear e1 e2 R1 K1;go_upto_region 4 with (go_at_call 161;refine (HX.out _ _ _ _ HS0.out.1 (zK.pre HK1.out HS0.out.2) (by omega)).mono ?_;rintro e w2 ⟨v1,t1,rfl,l1,u1,h2,r2⟩;have HS1:=Lib.hid (And.intro h2 (zK.trans hlt1 HS0.out.2 r2));clear y k1 h2 r2;try clear yr;have y:=(HR1.out.keeps HS1.out.2.keeps hb1).zl;have yr:=zL HS1.out.1.regs;have k1:=zH w2)
 go_wp2_with (go_at_call 162;refine (HB.out _ _ _ _ HS1.out.1 (zK.pre HK1.out HS1.out.2) (by omega)).mono ?_;rintro e w3 ⟨v2,t2,rfl,l2,u2,h2,r2⟩;have HS2:=Lib.hid (And.intro h2 (zK.trans hlt1 HS1.out.2 r2));clear y k1 h2 r2;try clear yr;have y:=(HR1.out.keeps HS2.out.2.keeps hb1).zl;have yr:=zL HS2.out.1.regs;have k1:=zH w3)
 go_returns
 exact ⟨v2,t2,rfl,by omega,by omega,HS2.out.1,zK.pre HK1.out HS2.out.2⟩
theorem zL5 {w:World} {b n:Nat} {v:Value} {rg:Int} (h:zN w b v rg n) (d:Int) (reg obj xk xn count:Int) (nm:ByteArray) (xa ta ea:Option Addr) (nx xc nt tc ne ec:Nat) (hxk:xk=0) (mt:Nat) (HT:Hid (∀ W v' n' d,zN W b v' rg n' -> zK w b v W v' -> n'+mt < 1000000 -> Calls Tryz.prog 70 #[.pointer (some ⟨b,0,none⟩), .slice ta nt tc, .int .i64 d] W (zh zN W b v' rg n' mt (.tuple #[])))) (hn:n+(mt+2) < 1000000) :
 Calls Tryz.prog 109 #[.pointer (some ⟨b,0,none⟩), .agg #[.int .i64 11, .int .i64 reg, .int .i64 obj, .int .i64 xk, .int .i64 xn, .string nm, .slice xa nx xc, .int .i64 count, .slice ta nt tc, .slice ea ne ec], .int .i64 d] w (zh zN w b v rg n (mt+2) (.tuple #[])):=by
 subst hxk;have H:=Lib.hid h;clear h;go_enter Tryz.func109,Tryz.ntmps109
 go_upto_region 1 with fail
 obtain ⟨b1,w1,e1,e2,R1,K1,_⟩:=newRow w [.int .i64 11, .int .i64 reg, .int .i64 obj, .int .i64 0, .int .i64 xn, .string nm, .slice xa nx xc, .int .i64 count, .slice ta nt tc, .slice ea ne ec] 146;rw [e1,e2];have hb1:¬ Mine b v b1:=H.out.new (J166 _);have HR1:=Lib.hid R1;have HK1:=Lib.hid K1;have HS0:Hid (zN w1 b v rg n /\ zK w1 b v w1 v):=⟨H.out.zD HK1.out,zK.refl⟩;have hlt1:b < w1.heap.size:=HS0.out.1.lt;have y:=R1.zl;have yr:=zL HS0.out.1.regs;have k1:=zH w1;clear e1 e2 R1 K1;by_cases hc:count=0
 ·subst hc
  go_wp2_with fail
  go_returns
  exact ⟨v,n,rfl,by omega,by omega,HS0.out.1,zK.pre HK1.out HS0.out.2⟩
 ·have hcb:(count==0)=false:=by simpa using hc
  go_upto_region 25 with (go_at_call 71;refine (zBR HS0.out.1 ⟨_,_,_,_⟩ [_] _ (by omega) (by simp)).mono ?_;rintro e w2 ⟨v1,rfl,h2,r2⟩;have HS1:=Lib.hid (And.intro h2 (zK.trans hlt1 HS0.out.2 r2));clear y k1 h2 r2;try clear yr;have y:=(HR1.out.keeps HS1.out.2.keeps hb1).zl;have yr:=zL HS1.out.1.regs;have k1:=zH w2)
  go_upto_region 26 with (go_at_call 70;refine (HT.out _ _ _ _ HS1.out.1 (zK.pre HK1.out HS1.out.2) (by omega)).mono ?_;rintro e w3 ⟨v2,t2,rfl,l2,u2,h2,r2⟩;have HS2:=Lib.hid (And.intro h2 (zK.trans hlt1 HS1.out.2 r2));clear y k1 h2 r2;try clear yr;have y:=(HR1.out.keeps HS2.out.2.keeps hb1).zl;have yr:=zL HS2.out.1.regs;have k1:=zH w3)
  go_wp2_with (go_at_call 71;refine (zBR HS2.out.1 ⟨_,_,_,_⟩ [_] _ (by omega) (by simp)).mono ?_;rintro e w4 ⟨v3,rfl,h2,r2⟩;have HS3:=Lib.hid (And.intro h2 (zK.trans hlt1 HS2.out.2 r2));clear y k1 h2 r2;try clear yr;have y:=(HR1.out.keeps HS3.out.2.keeps hb1).zl;have yr:=zL HS3.out.1.regs;have k1:=zH w4)
  go_returns
  exact ⟨v3,t2+1,rfl,by omega,by omega,HS3.out.1,zK.pre HK1.out HS3.out.2⟩
theorem zMX {w:World} {b n:Nat} {v:Value} {rg:Int} (h:zN w b v rg n) (d k:Int) (reg obj xk xn count:Int) (nm:ByteArray) (xa ta ea:Option Addr) (nx xc nt tc ne ec:Nat) (mt me:Nat) (HT:Hid (∀ W v' n' d,zN W b v' rg n' -> zK w b v W v' -> n'+mt < 1000000 -> Calls Tryz.prog 70 #[.pointer (some ⟨b,0,none⟩), .slice ta nt tc, .int .i64 d] W (zh zN W b v' rg n' mt (.tuple #[])))) (HE:Hid (∀ W v' n' d,zN W b v' rg n' -> zK w b v W v' -> n'+me < 1000000 -> Calls Tryz.prog 70 #[.pointer (some ⟨b,0,none⟩), .slice ea ne ec, .int .i64 d] W (zh zN W b v' rg n' me (.tuple #[])))) (hne:ne < 1000000) (hn:n+(mt+me+2) < 1000000) :
 Calls Tryz.prog 162 #[.pointer (some ⟨b,0,none⟩), .agg #[.int .i64 10, .int .i64 reg, .int .i64 obj, .int .i64 xk, .int .i64 xn, .string nm, .slice xa nx xc, .int .i64 count, .slice ta nt tc, .slice ea ne ec], .int .i64 d, .int .i64 k] w (zh zN w b v rg n (mt+me+2) (.tuple #[])):=by
 have H:=Lib.hid h;clear h;go_enter Tryz.func162,Tryz.ntmps162
 go_upto_region 1 with fail
 obtain ⟨b1,w1,e1,e2,R1,K1,_⟩:=newRow w [.int .i64 10, .int .i64 reg, .int .i64 obj, .int .i64 xk, .int .i64 xn, .string nm, .slice xa nx xc, .int .i64 count, .slice ta nt tc, .slice ea ne ec] 146;rw [e1,e2];have hb1:¬ Mine b v b1:=H.out.new (J166 _);have HR1:=Lib.hid R1;have HK1:=Lib.hid K1;have HS0:Hid (zN w1 b v rg n /\ zK w1 b v w1 v):=⟨H.out.zD HK1.out,zK.refl⟩;have hlt1:b < w1.heap.size:=HS0.out.1.lt;have y:=R1.zl;have yr:=zL HS0.out.1.regs;have k1:=zH w1;clear e1 e2 R1 K1;go_upto_region 2 with (go_at_call 71;refine (zBR HS0.out.1 ⟨_,_,_,_⟩ [_] _ (by omega) (by simp)).mono ?_;rintro e w2 ⟨v1,rfl,h2,r2⟩;have HS1:=Lib.hid (And.intro h2 (zK.trans hlt1 HS0.out.2 r2));clear y k1 h2 r2;try clear yr;have y:=(HR1.out.keeps HS1.out.2.keeps hb1).zl;have yr:=zL HS1.out.1.regs;have k1:=zH w2)
 go_upto_region 3 with (go_at_call 70;refine (HT.out _ _ _ _ HS1.out.1 (zK.pre HK1.out HS1.out.2) (by omega)).mono ?_;rintro e w3 ⟨v2,t2,rfl,l2,u2,h2,r2⟩;have HS2:=Lib.hid (And.intro h2 (zK.trans hlt1 HS1.out.2 r2));clear y k1 h2 r2;try clear yr;have y:=(HR1.out.keeps HS2.out.2.keeps hb1).zl;have yr:=zL HS2.out.1.regs;have k1:=zH w3)
 by_cases he:ne=0
 ·subst he
  go_upto_region 8 with fail
  obtain ⟨g,cap,hv,z0,z1,z2,z3⟩:=HS2.out.1.at (i:=n) (by omega);have i1:(0:Int) <= (n:Nat):=by omega
  have i2:((n:Nat):Int) < (t2:Nat):=by omega
  obtain ⟨u0,zc⟩:=z1 2 (by decide);have zf:=z2 (n*4+2);have HZ:=Lib.hid (z3 2 (by decide) ((t2:Nat)));clear z1 z2 z3 y yr;go_region
  go_wp2_with fail
  go_returns
  exact ⟨v2,t2,rfl,by omega,by omega,HZ.out.1.zD ((Keeps.refl zA _).drew),(zK.pre HK1.out (zK.trans hlt1 HS2.out.2 HZ.out.2)).post ((Keeps.refl zA _).drew)⟩
 ·have hn1:(0:Int) < ne:=by omega
  go_upto_region 5 with (go_at_call 71;refine (zFa HS2.out.1 ⟨_,_,_,_⟩ (by omega)).mono ?_;rintro e w4 ⟨v3,rfl,h2,r2⟩;have HS3:=Lib.hid (And.intro h2 (zK.trans hlt1 HS2.out.2 r2));clear y k1 h2 r2;try clear yr;have y:=(HR1.out.keeps HS3.out.2.keeps hb1).zl;have yr:=zL HS3.out.1.regs;have k1:=zH w4)
  obtain ⟨g,cap,hv,z0,z1,z2,z3⟩:=HS3.out.1.at (i:=n) (by omega);have i1:(0:Int) <= (n:Nat):=by omega
  have i2:((n:Nat):Int) < (t2+1:Nat):=by omega
  obtain ⟨u0,zc⟩:=z1 2 (by decide);have zf:=z2 (n*4+2);have HZ:=Lib.hid (z3 2 (by decide) ((t2:Int)+1));clear z1 z2 z3 y yr;go_region
  have HS4:Hid (zN _ b v3 rg (t2+1) /\ zK w1 b v _ v3):=⟨HZ.out.1.zD ((Keeps.refl zA _).drew),(zK.trans hlt1 HS3.out.2 HZ.out.2).post ((Keeps.refl zA _).drew)⟩;clear zc zf z0;generalize hw:(World.drew _)=w5 at HS4 ⊢;clear hw HZ;have y:=(HR1.out.keeps HS4.out.2.keeps hb1).zl;have yr:=zL HS4.out.1.regs;have k1:=zH w5;go_upto_region 7 with (go_at_call 70;refine (HE.out _ _ _ _ HS4.out.1 (zK.pre HK1.out HS4.out.2) (by omega)).mono ?_;rintro e w6 ⟨v5,t5,rfl,l5,u5,h2,r2⟩;have HS5:=Lib.hid (And.intro h2 (zK.trans hlt1 HS4.out.2 r2));clear y k1 h2 r2;try clear yr;have y:=(HR1.out.keeps HS5.out.2.keeps hb1).zl;have yr:=zL HS5.out.1.regs;have k1:=zH w6)
  obtain ⟨g,cap,hv,z0,z1,z2,z3⟩:=HS5.out.1.at (i:=t2) (by omega);have i1:(0:Int) <= (t2:Nat):=by omega
  have i2:((t2:Nat):Int) < (t5:Nat):=by omega
  obtain ⟨u0,zc⟩:=z1 1 (by decide);have zf:=z2 (t2*4+1);have HZ:=Lib.hid (z3 1 (by decide) ((t5:Nat)));clear z1 z2 z3 y yr;go_region
  go_wp2_with fail
  go_returns
  exact ⟨v5,t5,rfl,by omega,by omega,HZ.out.1.zD ((Keeps.refl zA _).drew),(zK.pre HK1.out (zK.trans hlt1 HS5.out.2 HZ.out.2)).post ((Keeps.refl zA _).drew)⟩
def zFI (gs:Nat -> Nat × Nat) (i:Nat) (p:Nat × Nat) (j:Nat):Nat × Nat:=if j=i then p else gs j
def zMh (md:Region.Mode) (l:List Oper) (n:Nat) (D:Nat -> List Nat):Bool :=
 (List.range n).all fun i=>((l[i]?).map fun o=>(D i).all fun a=>decide (a=i) || o.after.any fun e=>Region.binds md e&&(D e.on).contains a).getD true
section
variable {P:Program}
theorem zBP {id:Nat} {Q:Exit -> Act -> World -> Prop} {a:Act} {w:World} {l:List Oper} (n:Nat) (hm:P.follows .mixedOrders=true) (hB:zGZ .any l n=true) (D:Nat -> List Nat) (hDB:zMh .any l n D=true)
 (R:World -> World -> Prop) (hrefl:∀ w,R w w) (htrans:∀ a b c,R a b -> R b c -> R a c) (hsz:∀ a b,R a b -> a.heap.size <= b.heap.size) (F:Nat -> Value -> (Nat -> Nat × Nat) -> World -> Prop) (hst:∀ j v gs W W',F j v gs W -> R W W' -> F j v gs W') (hloc:∀ j v gs gs' W,(∀ a,a ∈ D j -> gs a=gs' a) -> F j v gs W -> F j v gs' W)
 (hstep:∀ i o,i < n -> l[i]?=some o -> ∀ (vs:Nat -> Value) (gs:Nat -> Nat × Nat) (W:World) (Q':Exit -> Act -> World -> Prop),R w.drew W -> (∀ j,(o.after.any fun e=>Region.binds .any e&&decide (e.on=j))=true -> F j (vs j) gs W) →
   (∀ v W',R W W' -> F i v (zFI gs i (W.heap.size,W'.heap.size)) W' -> Q' .normal ((zJ l vs a n).put o.dst v) W') -> wpList P l.toArray Q' [o] (zJ l vs a n) W)
 (htail:∀ (vs:Nat -> Value) (gs:Nat -> Nat × Nat) (W:World),R w.drew W -> (∀ j,j < n -> F j (vs j) gs W) -> (∀ j,j < n -> (gs j).2 <= W.heap.size) -> (∀ i j,i < n -> j < n -> i ≠ j -> (gs i).2 <= (gs j).1 \/ (gs j).2 <= (gs i).1) -> wpList P l.toArray Q (l.drop n) (zJ l vs a n) W):(Code.region id l.toArray true).wp P Q a w:=by
 simp only [zGZ,Bool.and_eq_true,decide_eq_true_eq,List.all_eq_true,List.mem_range] at hB;obtain ⟨⟨⟨⟨⟨hn,hs⟩,hc⟩,hback⟩,hdis⟩,hseq⟩:=hB
 have key:∀ (f:Nat) (listed:Array Bool) (vs:Nat -> Value) (gs:Nat -> Nat × Nat) (W:World),HeadInv .any l.toArray n listed -> zBO listed n=f -> R w.drew W -> (∀ j,j < n -> listed.getD j true=true -> F j (vs j) gs W) -> (∀ j,j < n -> listed.getD j true=true -> ∀ a,a ∈ D j -> listed.getD a true=true) -> (∀ j,j < n -> listed.getD j true=true -> (gs j).2 <= W.heap.size) -> (∀ i j,i < n -> j < n -> i ≠ j -> listed.getD i true=true -> listed.getD j true=true -> (gs i).2 <= (gs j).1 \/ (gs j).2 <= (gs i).1) →
  wpAny P .any l.toArray Q (f+(l.length - n)) listed (zJ l vs a n) W:=by
  intro f
  induction f with
  | zero =>
    intro listed vs gs W inv hcnt hR hF hL hG hD
    have hall:=zB0 n hcnt
    have he:listed=zo n (l.length - n):=by
     exact J10 _
    have h1:=htail vs gs W hR (fun j hj=>hF j hj (hall j hj)) (fun j hj=>hG j hj (hall j hj)) (fun i j hi hj hne=>hD i j hi hj hne (hall i hi) (hall j hj));have hdl:(l.drop n).length=l.length - n:=by simp
    have:=wpAny_of_seq (P:=P) (md:=.any) (ops:=l.toArray) (Q':=Q) (l.drop n) n listed (zJ l vs a n) W (fun j=>by simp [List.getElem?_drop]) (by rw [hdl,he];exact hseq) h1
    rw [hdl] at this;rw [Nat.zero_add];exact this
  | succ f ih =>
    intro listed vs gs W inv hcnt hR hF hL hG hD
    obtain ⟨i0,hi0,hu0,hb0⟩:=zA9 n (by omega:zBO listed n ≠ 0)
    have hr0:i0 ∈ Region.ready .any l.toArray listed:=by
     exact J19 _
    rw [show f+1+(l.length - n)=(f+(l.length - n))+1 by omega];refine ⟨fun h0=>by exact J191 _,fun i hi=>?_⟩
    have hin:i < n:=by
     exact J97 _
    have hun:=(mem_ready.1 hi).1;obtain ⟨_,o,ho,hafter⟩:=mem_ready.1 hi;have ho':l[i]?=some o:=by simpa using ho
    refine zBw ho (hstep i o hin ho' vs gs W _ hR (fun j hj=>?_) (fun v W' hR' hF'=>?_))
    ·exact J17 _
    ·have hd:o.dst=(l[i]?).bind (·.dst):=by rw [ho'];rfl
     show wpAny P .any l.toArray Q (f+(l.length - n)) (listed.setIfInBounds i true) ((zJ l vs a n).put o.dst v) W'
     rw [hd,zBU v n vs hin (hdis n (by omega)) (fun m hm=>hdis m (by omega))];have hne0:∀ j,j < n -> listed.getD j true=true -> j ≠ i:=fun j hj hl e=>by subst e;rw [hun] at hl;cases hl
     refine ih _ _ (zFI gs i (W.heap.size,W'.heap.size)) _ (inv.set hi hin) ?_ (htrans _ _ _ hR hR') (fun j hj hl=>?_) (fun j hj hl b hb=>?_) (fun j hj hl=>?_) (fun i1 j1 hi1 hj1 hne hl1 hl2=>?_)
     ·have:=zCV hun n
      rw [if_pos hin] at this;omega
     ·exact J44 _
     ·by_cases eb:b=i
      ·subst eb
       by_cases hs2:b < listed.size
       ·simp [hs2]
       ·simp [hs2]
      ·rw [getD_set_ne true (fun h=>eb h.symm)]
       by_cases e:j=i
       ·subst e
        have h1:=List.all_eq_true.1 hDB j (List.mem_range.2 hin);simp only [ho',Option.map_some,Option.getD_some,List.all_eq_true] at h1;have h2:=h1 b hb;simp only [Bool.or_eq_true,decide_eq_true_eq,Array.any_eq_true',Bool.and_eq_true,List.contains_iff_mem] at h2;rcases h2 with h2 | ⟨e,he,hbe,h3⟩
        ·exact absurd h2 eb
        ·have h4:=hafter e he hbe
         have hle:e.on < j:=by
          have h1:=List.all_eq_true.1 hback j (List.mem_range.2 hin);simp only [ho',Option.map_some,Option.getD_some,Array.all_eq_true_iff_forall_mem] at h1;have h2:=h1 e he;simpa only [hbe,Bool.not_true,Bool.false_or,decide_eq_true_eq] using h2
         exact J103 _
       ·rw [getD_set_ne true (fun h=>e h.symm)] at hl
        exact hL j hj hl b hb
     ·by_cases e:j=i
      ·subst e;unfold zFI;rw [if_pos rfl];exact Nat.le_refl _
      ·rw [getD_set_ne true (fun h=>e h.symm)] at hl
       unfold zFI;rw [if_neg e];exact Nat.le_trans (hG j hj hl) (hsz _ _ hR')
     ·by_cases e1:i1=i
      ·subst e1
       have e2:¬ j1=i1:=fun h=>hne h.symm
       rw [getD_set_ne true hne] at hl2;unfold zFI;rw [if_pos rfl,if_neg e2];exact .inr (hG j1 hj1 hl2)
      ·rw [getD_set_ne true (fun h=>e1 h.symm)] at hl1
       by_cases e2:j1=i
       ·subst e2
        unfold zFI;rw [if_pos rfl,if_neg e1];exact .inl (hG i1 hi1 hl1)
       ·rw [getD_set_ne true (fun h=>e2 h.symm)] at hl2
        unfold zFI;rw [if_neg e1,if_neg e2];exact hD i1 j1 hi1 hj1 hne hl1 hl2
 refine wp_region_any hm ?_
 have inv0:HeadInv .any l.toArray n (Array.replicate l.toArray.size false) :=
  ⟨by simp,fun j oj _ hl=>(J195 _),fun t _ ht=>getD_in (by simpa using ht) (getD_replicate_false _ _)⟩
 have hcn:∀ m,m <= l.length -> zBO (Array.replicate l.toArray.size false) m=m:=by
  exact J33 _
 have hno:∀ j,j < n -> (Array.replicate l.toArray.size false).getD j true=true -> False:=fun j hj hl=>by
  have h1:j < l.length:=by omega
  have:(Array.replicate l.toArray.size false).getD j true=false:=by simp [h1]
  rw [this] at hl;cases hl
 have:=key n (Array.replicate l.toArray.size false) (slotsOf l a) (fun _=>(0,0)) w.drew inv0 (hcn n (by omega)) (hrefl _) (fun j hj hl=>(hno j hj hl).elim) (fun j hj hl=>(hno j hj hl).elim) (fun j hj hl=>(hno j hj hl).elim) (fun i j hi hj _ hl _=>(hno i hi hl).elim)
 rw [zBe l a n,show n+(l.length - n)=l.toArray.size by simp;omega] at this;exact this
end
end Go.Proofs.YtoapgjjepiopbaaGreatDoor
