/- Layer K: texts joined. -/
import Derived.Test.YtfokdllgnblamaaGreatDoorK49
set_option linter.all false
set_option maxHeartbeats 8000000
set_option maxRecDepth 8000
namespace Go.Proofs.YtfokdllgnblamaaGreatDoor
open Go.RowKit
abbrev vE:=@zP.put
theorem J66 (P:Prop) (h:P:=by
 go_wp2_with fail
 exact ⟨⟨i+1,by omega,by go_num,HST.out⟩,by simp [intOf];omega⟩):P:=h
theorem J122 (P:Prop) (h:P:=by
 go_wp2_with fail
 exact ⟨⟨i+1,da2,dc2,_,by omega,by go_num,HO2.out,HA2.out,HRA2.out,HK2.out⟩,by simp [intOf];omega⟩):P:=h
theorem J125 (P:Prop) (h:P:=by
 go_wp2_with fail
 go_returns
 exact ⟨rfl,HP.out.1,(HK1.out.mono (fun _ _ h=>h.elim)).trans HP.out.2 (fun _ _ h=>h)⟩):P:=h
def zLn (w:World) (rho:Rho) (e:Ending) (w':World):Prop:=e=.returned (.tuple #[]) /\ zP w' rho /\ Keeps (zBF rho) w w'
def zJb (rho:Rho) (w:World):Prop:=∀ q,zBF rho q -> q < w.heap.size
theorem zA4 {rho:Rho} {g:Nat} {t:Nat × Nat × Nat} (h:rho g=some t):zBF rho g:=by unfold zBF;rw [h];exact fun h=>by cases h
section
variable {w:World} {rho:Rho} {g k r n i:Nat} (h:zP w rho)
include h
theorem zP.num (hg:rho g=some (k,r,n)) (hi:i < n) (j:Nat) (hj:(shp k)[j]?=some .num) (o:Nat) (ho:o=i*(shp k).length+j):∃ v,w.cell? ⟨g,o,none⟩=some (.int .i64 v) /\ w.frozen? ⟨g,o,none⟩=false:=by
 subst ho;obtain ⟨v,h1,h2,a,rfl⟩:=h g k r n hg i j _ hi hj;exact ⟨a,h1,h2⟩
theorem zP.str (hg:rho g=some (k,r,n)) (hi:i < n) (j:Nat) (hj:(shp k)[j]?=some .str) (o:Nat) (ho:o=i*(shp k).length+j):∃ v,w.cell? ⟨g,o,none⟩=some (.string v) /\ w.frozen? ⟨g,o,none⟩=false:=by
 subst ho;obtain ⟨v,h1,h2,a,rfl⟩:=h g k r n hg i j _ hi hj;exact ⟨a,h1,h2⟩
theorem zP.row (hg:rho g=some (k,r,n)) (hi:i < n) (j:Nat) {t:Nat} (hj:(shp k)[j]?=some (.row t)) (o:Nat) (ho:o=i*(shp k).length+j):∃ ad len cap,w.cell? ⟨g,o,none⟩=some (.slice ad len cap) /\ w.frozen? ⟨g,o,none⟩=false /\ zCl rho t r len ad:=by
 subst ho;obtain ⟨v,h1,h2,ad,len,cap,rfl,h3⟩:=h g k r n hg i j _ hi hj;exact ⟨ad,len,cap,h1,h2,h3⟩
end
theorem zFy {rho:Rho} {r:Nat} {t:Nat}:zEj rho r (.row t) (.slice none 0 0):=⟨none,0,0,rfl,fun h=>absurd rfl h⟩
theorem zI1:∀ (r:Nat) (w:World) (rho:Rho) (k num:Int) (nm:ByteArray) (ad:Option Addr) (len cap:Nat),zP w rho -> zJb rho w -> zCl rho 1 r len ad →
 Calls Tryz.prog 71 #[.agg #[.int .i64 k, .int .i64 num, .string nm, .slice ad len cap]] w (zLn w rho):=by
 intro r
 induction r using Nat.strongRecOn with
 | _ r ih =>
 intro w rho k num nm ad len cap h hd hs
 have HI:=yB ih;have HH:=yB h;have HD:=yB hd;have HS:=yB hs;clear ih h hd hs;go_enter Tryz.func71,Tryz.ntmps71
 go_upto_region 1 with fail
 obtain ⟨b1,w1,e1,e2,R1,K1,_⟩:=newRow w [.int .i64 k, .int .i64 num, .string nm, .slice ad len cap] 65;try rw [e1]
 try rw [e2]
 have HR1:=yB R1;have HB1:Hid (¬ zBF rho b1):=fun q=>by have:=HD.out b1 q;omega
 have H1:=yB (HH.out.zD K1);have HK1:=yB K1;have y:=R1.zB0;have k1:=zH w1;clear e1 e2 R1 K1;go_wp2_with fail
 go_loopw [2] (fun kv wr=>∃ i:Nat,i <= len /\ kv=.int .i64 i /\ Hid (zP wr rho /\ Keeps (zBF rho) w1 wr)) (fun kv _=>len - (intOf kv).toNat)
 case atStart=>exact ⟨0,yJ _,rfl,H1.out,yC _ _⟩
 case round =>
  obtain ⟨i,hi0,rfl,HP⟩:=hrel;clear y k1;have hr:=HR1.out.keeps HP.out.2 HB1.out;have y:=hr.zB0;have kr:=zH wr;clear hr;by_cases hlt:i < len
  ·have i1:(0:Int) <= i:=by omega
   have i2:(i:Int) < len:=by omega
   obtain ⟨g,r',n,rfl,hg,hrr,hn,hle⟩:=HS.out (by omega);have hi:i < n:=by omega
   have HG:=yB hg;have HI2:=yB hi;obtain ⟨v0,d0,f0⟩:=zP.num HP.out.1 hg hi 0 rfl (i*4) (by simp [shp]);obtain ⟨v1,d1,f1⟩:=zP.num HP.out.1 hg hi 1 rfl (i*4+1) (by simp [shp]);obtain ⟨v2,d2,f2⟩:=zP.str HP.out.1 hg hi 2 rfl (i*4+2) (by simp [shp]);obtain ⟨t3,n3,c3,d3,f3,s3⟩:=zP.row HP.out.1 hg hi 3 rfl (i*4+3) (by simp [shp]);have HC:=yB (HI.out r' hrr wr rho v0 v1 v2 t3 n3 c3 HP.out.1 (fun q e=>yI (HD.out q e) (yX HK1.out.size HP.out.2.size)) s3);clear hg hi hn s3 f0 f1 f2 f3;go_upto_region 5 with (go_at_call 71;refine HC.out.mono ?_;rintro e w2 ⟨rfl,h2,k2⟩;have HP2:Hid (zP w2 rho /\ Keeps (zBF rho) w1 w2):=⟨h2,HP.out.2.trans k2 (fun _ _ h=>h)⟩;clear h2 k2)
   have hr:=HR1.out.keeps HP2.out.2 HB1.out;clear y d0 d1 d2 d3 HC kr;have y:=hr.zB0;have kr:=zH w2;have hg:=HG.out;have hi:=HI2.out;obtain ⟨v0,d0,f0⟩:=zP.num HP2.out.1 hg hi 0 rfl (i*4) (by simp [shp]);obtain ⟨v1,d1,f1⟩:=zP.num HP2.out.1 hg hi 1 rfl (i*4+1) (by simp [shp]);obtain ⟨v2,d2,f2⟩:=zP.str HP2.out.1 hg hi 2 rfl (i*4+2) (by simp [shp]);obtain ⟨t3,n3,c3,d3,f3,s3⟩:=zP.row HP2.out.1 hg hi 3 rfl (i*4+3) (by simp [shp]);have HST:Hid (zP ((((w2.setCell ⟨g,i*4,none⟩ (.int .i64 (-77))).setCell ⟨g,i*4+1,none⟩ (.int .i64 0)).setCell ⟨g,i*4+2,none⟩ (.string { data:=#[] })).setCell ⟨g,i*4+3,none⟩ (.slice none 0 0)) rho /\ Keeps (zBF rho) w1 ((((w2.setCell ⟨g,i*4,none⟩ (.int .i64 (-77))).setCell ⟨g,i*4+1,none⟩ (.int .i64 0)).setCell ⟨g,i*4+2,none⟩ (.string { data:=#[] })).setCell ⟨g,i*4+3,none⟩ (.slice none 0 0))):=⟨(vE (vE (vE (vE HP2.out.1 hg hi ⟨g,i*4,none⟩ 0 (by simp [shp]) rfl ⟨_,rfl⟩) hg hi ⟨g,i*4+1,none⟩ 1 (by simp [shp]) rfl ⟨_,rfl⟩) hg hi ⟨g,i*4+2,none⟩ 2 (by simp [shp]) rfl ⟨_,rfl⟩) hg hi ⟨g,i*4+3,none⟩ 3 (by simp [shp]) rfl zFy),((((HP2.out.2.setCell (p:=⟨g,i*4,none⟩) (fun _=>zA4 hg) _).setCell (p:=⟨g,i*4+1,none⟩) (fun _=>zA4 hg) _).setCell (p:=⟨g,i*4+2,none⟩) (fun _=>zA4 hg) _).setCell (p:=⟨g,i*4+3,none⟩) (fun _=>zA4 hg) _)⟩;clear hr hg hi s3;exact J66 _
  ·obtain rfl:i=len:=by omega
   exact J125 _
theorem zIy:∀ (r:Nat) (w:World) (rho:Rho) (ad:Option Addr) (len cap:Nat),zP w rho -> zJb rho w -> zCl rho 2 r len ad →
 Calls Tryz.prog 35 #[.slice ad len cap] w (zLn w rho):=by
 intro r
 induction r using Nat.strongRecOn with
 | _ r ih =>
 intro w rho ad len cap h hd hs
 have HI:=yB ih;have HH:=yB h;have HD:=yB hd;have HS:=yB hs;clear ih h hd hs;go_enter Tryz.func35,Tryz.ntmps35
 go_wp2_with fail
 go_loopw [2] (fun kv wr=>∃ i:Nat,i <= len /\ kv=.int .i64 i /\ Hid (zP wr rho /\ Keeps (zBF rho) w wr)) (fun kv _=>len - (intOf kv).toNat)
 case atStart=>exact ⟨0,yJ _,rfl,HH.out,yC _ _⟩
 case round =>
  obtain ⟨i,hi0,rfl,HP⟩:=hrel;by_cases hlt:i < len
  ·have i1:(0:Int) <= i:=by omega
   have i2:(i:Int) < len:=by omega
   obtain ⟨g,r',n,rfl,hg,hrr,hn,hle⟩:=HS.out (by omega);have hi:i < n:=by omega
   have HDW:Hid (∀ W,w.heap.size <= W.heap.size -> zJb rho W):=fun W hk q e=>yI (HD.out q e) hk
   have HRR:=yB hrr;clear hrr hn;obtain ⟨v0,d0,f0⟩:=zP.num HP.out.1 hg hi 0 rfl (i*10) (by simp [shp]);obtain ⟨v1,d1,f1⟩:=zP.num HP.out.1 hg hi 1 rfl (i*10+1) (by simp [shp]);obtain ⟨v2,d2,f2⟩:=zP.num HP.out.1 hg hi 2 rfl (i*10+2) (by simp [shp]);obtain ⟨v3,d3,f3⟩:=zP.num HP.out.1 hg hi 3 rfl (i*10+3) (by simp [shp]);obtain ⟨v4,d4,f4⟩:=zP.num HP.out.1 hg hi 4 rfl (i*10+4) (by simp [shp]);obtain ⟨v5,d5,f5⟩:=zP.str HP.out.1 hg hi 5 rfl (i*10+5) (by simp [shp]);obtain ⟨t6,n6,c6,d6,f6,s6⟩:=zP.row HP.out.1 hg hi 6 rfl (i*10+6) (by simp [shp]);obtain ⟨v7,d7,f7⟩:=zP.num HP.out.1 hg hi 7 rfl (i*10+7) (by simp [shp]);obtain ⟨t8,n8,c8,d8,f8,s8⟩:=zP.row HP.out.1 hg hi 8 rfl (i*10+8) (by simp [shp]);obtain ⟨t9,n9,c9,d9,f9,s9⟩:=zP.row HP.out.1 hg hi 9 rfl (i*10+9) (by simp [shp]);have HC:=yB (zI1 r' wr rho v3 v4 v5 t6 n6 c6 HP.out.1 (HDW.out _ HP.out.2.size) s6);clear s6 s8 s9 f0 f1 f2 f3 f4 f5 f6 f7 f8 f9;go_upto_region 4 with (go_at_call 71;refine HC.out.mono ?_;rintro e w2 ⟨rfl,h2,k2⟩;have HP0:Hid (zP w2 rho /\ Keeps (zBF rho) w w2):=⟨h2,HP.out.2.trans k2 (fun _ _ h=>h)⟩;clear h2 k2)
   clear HC d0 d1 d2 d3 d4 d5 d6 d7 d8 d9;obtain ⟨v0,d0,f0⟩:=zP.num HP0.out.1 hg hi 0 rfl (i*10) (by simp [shp]);obtain ⟨v1,d1,f1⟩:=zP.num HP0.out.1 hg hi 1 rfl (i*10+1) (by simp [shp]);obtain ⟨v2,d2,f2⟩:=zP.num HP0.out.1 hg hi 2 rfl (i*10+2) (by simp [shp]);obtain ⟨v3,d3,f3⟩:=zP.num HP0.out.1 hg hi 3 rfl (i*10+3) (by simp [shp]);obtain ⟨v4,d4,f4⟩:=zP.num HP0.out.1 hg hi 4 rfl (i*10+4) (by simp [shp]);obtain ⟨v5,d5,f5⟩:=zP.str HP0.out.1 hg hi 5 rfl (i*10+5) (by simp [shp]);obtain ⟨t6,n6,c6,d6,f6,s6⟩:=zP.row HP0.out.1 hg hi 6 rfl (i*10+6) (by simp [shp]);obtain ⟨v7,d7,f7⟩:=zP.num HP0.out.1 hg hi 7 rfl (i*10+7) (by simp [shp]);obtain ⟨t8,n8,c8,d8,f8,s8⟩:=zP.row HP0.out.1 hg hi 8 rfl (i*10+8) (by simp [shp]);obtain ⟨t9,n9,c9,d9,f9,s9⟩:=zP.row HP0.out.1 hg hi 9 rfl (i*10+9) (by simp [shp]);have HC:=yB (HI.out r' HRR.out w2 rho t8 n8 c8 HP0.out.1 (HDW.out _ HP0.out.2.size) s8);clear s6 s8 s9 f0 f1 f2 f3 f4 f5 f6 f7 f8 f9;go_upto_region 5 with (go_at_call 35;refine HC.out.mono ?_;rintro e w3 ⟨rfl,h2,k2⟩;have HP1:Hid (zP w3 rho /\ Keeps (zBF rho) w w3):=⟨h2,HP0.out.2.trans k2 (fun _ _ h=>h)⟩;clear h2 k2)
   clear HC d0 d1 d2 d3 d4 d5 d6 d7 d8 d9;obtain ⟨v0,d0,f0⟩:=zP.num HP1.out.1 hg hi 0 rfl (i*10) (by simp [shp]);obtain ⟨v1,d1,f1⟩:=zP.num HP1.out.1 hg hi 1 rfl (i*10+1) (by simp [shp]);obtain ⟨v2,d2,f2⟩:=zP.num HP1.out.1 hg hi 2 rfl (i*10+2) (by simp [shp]);obtain ⟨v3,d3,f3⟩:=zP.num HP1.out.1 hg hi 3 rfl (i*10+3) (by simp [shp]);obtain ⟨v4,d4,f4⟩:=zP.num HP1.out.1 hg hi 4 rfl (i*10+4) (by simp [shp]);obtain ⟨v5,d5,f5⟩:=zP.str HP1.out.1 hg hi 5 rfl (i*10+5) (by simp [shp]);obtain ⟨t6,n6,c6,d6,f6,s6⟩:=zP.row HP1.out.1 hg hi 6 rfl (i*10+6) (by simp [shp]);obtain ⟨v7,d7,f7⟩:=zP.num HP1.out.1 hg hi 7 rfl (i*10+7) (by simp [shp]);obtain ⟨t8,n8,c8,d8,f8,s8⟩:=zP.row HP1.out.1 hg hi 8 rfl (i*10+8) (by simp [shp]);obtain ⟨t9,n9,c9,d9,f9,s9⟩:=zP.row HP1.out.1 hg hi 9 rfl (i*10+9) (by simp [shp]);have HC:=yB (HI.out r' HRR.out w3 rho t9 n9 c9 HP1.out.1 (HDW.out _ HP1.out.2.size) s9);clear s6 s8 s9 f0 f1 f2 f3 f4 f5 f6 f7 f8 f9;go_upto_region 6 with (go_at_call 35;refine HC.out.mono ?_;rintro e w4 ⟨rfl,h2,k2⟩;have HP2:Hid (zP w4 rho /\ Keeps (zBF rho) w w4):=⟨h2,HP1.out.2.trans k2 (fun _ _ h=>h)⟩;clear h2 k2)
   clear HC d0 d1 d2 d3 d4 d5 d6 d7 d8 d9;obtain ⟨v0,d0,f0⟩:=zP.num HP2.out.1 hg hi 0 rfl (i*10) (by simp [shp]);obtain ⟨v1,d1,f1⟩:=zP.num HP2.out.1 hg hi 1 rfl (i*10+1) (by simp [shp]);obtain ⟨v2,d2,f2⟩:=zP.num HP2.out.1 hg hi 2 rfl (i*10+2) (by simp [shp]);obtain ⟨v3,d3,f3⟩:=zP.num HP2.out.1 hg hi 3 rfl (i*10+3) (by simp [shp]);obtain ⟨v4,d4,f4⟩:=zP.num HP2.out.1 hg hi 4 rfl (i*10+4) (by simp [shp]);obtain ⟨v5,d5,f5⟩:=zP.str HP2.out.1 hg hi 5 rfl (i*10+5) (by simp [shp]);obtain ⟨t6,n6,c6,d6,f6,s6⟩:=zP.row HP2.out.1 hg hi 6 rfl (i*10+6) (by simp [shp]);obtain ⟨v7,d7,f7⟩:=zP.num HP2.out.1 hg hi 7 rfl (i*10+7) (by simp [shp]);obtain ⟨t8,n8,c8,d8,f8,s8⟩:=zP.row HP2.out.1 hg hi 8 rfl (i*10+8) (by simp [shp]);obtain ⟨t9,n9,c9,d9,f9,s9⟩:=zP.row HP2.out.1 hg hi 9 rfl (i*10+9) (by simp [shp]);have HST:Hid (zP ((((((((((w4.setCell ⟨g,i*10,none⟩ (.int .i64 (-77))).setCell ⟨g,i*10+1,none⟩ (.int .i64 0)).setCell ⟨g,i*10+2,none⟩ (.int .i64 0)).setCell ⟨g,i*10+3,none⟩ (.int .i64 0)).setCell ⟨g,i*10+4,none⟩ (.int .i64 0)).setCell ⟨g,i*10+5,none⟩ (.string { data:=#[] })).setCell ⟨g,i*10+6,none⟩ (.slice none 0 0)).setCell ⟨g,i*10+7,none⟩ (.int .i64 0)).setCell ⟨g,i*10+8,none⟩ (.slice none 0 0)).setCell ⟨g,i*10+9,none⟩ (.slice none 0 0)) rho /\ Keeps (zBF rho) w ((((((((((w4.setCell ⟨g,i*10,none⟩ (.int .i64 (-77))).setCell ⟨g,i*10+1,none⟩ (.int .i64 0)).setCell ⟨g,i*10+2,none⟩ (.int .i64 0)).setCell ⟨g,i*10+3,none⟩ (.int .i64 0)).setCell ⟨g,i*10+4,none⟩ (.int .i64 0)).setCell ⟨g,i*10+5,none⟩ (.string { data:=#[] })).setCell ⟨g,i*10+6,none⟩ (.slice none 0 0)).setCell ⟨g,i*10+7,none⟩ (.int .i64 0)).setCell ⟨g,i*10+8,none⟩ (.slice none 0 0)).setCell ⟨g,i*10+9,none⟩ (.slice none 0 0))):=⟨(vE (vE (vE (vE (vE (vE (vE (vE (vE (vE HP2.out.1 hg hi ⟨g,i*10,none⟩ 0 (by simp [shp]) rfl ⟨_,rfl⟩) hg hi ⟨g,i*10+1,none⟩ 1 (by simp [shp]) rfl ⟨_,rfl⟩) hg hi ⟨g,i*10+2,none⟩ 2 (by simp [shp]) rfl ⟨_,rfl⟩) hg hi ⟨g,i*10+3,none⟩ 3 (by simp [shp]) rfl ⟨_,rfl⟩) hg hi ⟨g,i*10+4,none⟩ 4 (by simp [shp]) rfl ⟨_,rfl⟩) hg hi ⟨g,i*10+5,none⟩ 5 (by simp [shp]) rfl ⟨_,rfl⟩) hg hi ⟨g,i*10+6,none⟩ 6 (by simp [shp]) rfl zFy) hg hi ⟨g,i*10+7,none⟩ 7 (by simp [shp]) rfl ⟨_,rfl⟩) hg hi ⟨g,i*10+8,none⟩ 8 (by simp [shp]) rfl zFy) hg hi ⟨g,i*10+9,none⟩ 9 (by simp [shp]) rfl zFy),((((((((((HP2.out.2.setCell (p:=⟨g,i*10,none⟩) (fun _=>zA4 hg) _).setCell (p:=⟨g,i*10+1,none⟩) (fun _=>zA4 hg) _).setCell (p:=⟨g,i*10+2,none⟩) (fun _=>zA4 hg) _).setCell (p:=⟨g,i*10+3,none⟩) (fun _=>zA4 hg) _).setCell (p:=⟨g,i*10+4,none⟩) (fun _=>zA4 hg) _).setCell (p:=⟨g,i*10+5,none⟩) (fun _=>zA4 hg) _).setCell (p:=⟨g,i*10+6,none⟩) (fun _=>zA4 hg) _).setCell (p:=⟨g,i*10+7,none⟩) (fun _=>zA4 hg) _).setCell (p:=⟨g,i*10+8,none⟩) (fun _=>zA4 hg) _).setCell (p:=⟨g,i*10+9,none⟩) (fun _=>zA4 hg) _)⟩
   clear hg hi s6 s8 s9;exact J66 _
  ·obtain rfl:i=len:=by omega
   go_wp2_with fail
   go_returns
   exact ⟨rfl,HP.out.1,HP.out.2⟩
theorem zCl.zKz {rho:Rho} {k r r' n:Nat} {ad:Option Addr} (h:zCl rho k r n ad) (hr:r <= r'):zCl rho k r' n ad:=h.mono hr fun _ _ e=>e
def zM8 (B:Nat) (x:Ex) (e:Ending) (w':World):Prop:=∃ ad' cap',e=.returned (exV x ad' cap') /\ zN w' (Since B w') x.args ad' /\ zMf B w' 1 x.cnt x.args.length ad'
theorem zNS:∀ (x:Ex) (w:World) (F:Nat -> Prop) (ad:Option Addr) (cap:Nat),zN w F x.args ad -> x.cnt < 1000000000 -> Calls Tryz.prog 65 #[exV x ad cap] w fun e w'=>zM8 w.heap.size x e w' /\ Keeps zA w w':=by
 refine Ex.ind (fun k num nm l ih w F ad cap h hb=>?_)
 have HL:Hid (zN w F l ad):=h;have IH:=yB ih;have hl:=Ex.zAp l;have hcn:Ex.cnt (.mk k num nm l)=1+Ex.zW l:=by simp [Ex.cnt]
 have hb2:l.length < 1000000000:=by omega
 have HB2:Hid (Ex.zW l < 1000000000 /\ l.length < 1000000000 /\ Ex.cnt (.mk k num nm l)=Ex.zW l+1):=⟨by omega,hb2,by omega⟩;obtain ⟨j0,hj0,hz0,hz1,hz2⟩:=info_parts zF8;obtain ⟨Q,hQ⟩:=eX (α:=Ending -> World -> Prop) (fun e w'=>zM8 w.heap.size (.mk k num nm l) e w' /\ Keeps zA w w');rw [<- hQ];have HQ:=yB hQ;clear h ih hl hcn hb hQ;show Calls _ _ #[.agg #[.int .i64 k, .int .i64 num, .string nm, .slice ad l.length cap]] _ _
 go_enter Tryz.func65,Tryz.ntmps65
 go_upto_region 1 with fail
 obtain ⟨b1,wA,e1,e2,R1,KA,hsz⟩:=newRow w [.int .i64 k, .int .i64 num, .string nm, .slice ad l.length cap] 65;try rw [e1]
 try rw [e2]
 obtain ⟨b2,wB,e3,e4,R2,KB,_⟩:=newRow wA [.int .i64 0, .int .i64 0, .string { data:=#[] }, .slice none 0 0] 65;try rw [e3]
 try rw [e4]
 rw [show b1+1=b2 from hsz.out.symm.trans e3];have y1:=(R1.keeps KB (fun h=>h)).zB0;have kB:=zH wB;go_upto_region 2 with fail
 obtain ⟨b3,w1,e5,e6,R3,KC,_⟩:=newRow wB [.int .i64 k, .int .i64 num, .string nm, .slice none 0 0] 65;try rw [e5]
 try rw [e6]
 have HR1:=yB ((R1.keeps KB (fun h=>h)).keeps KC (fun h=>h));have HR2:=yB (R2.keeps KC (fun h=>h));have HR3:=yB R3;have HK1:=yB ((KA.zB KB).zB KC);have HBB:Hid (w.heap.size <= b1 /\ b1 < b2 /\ b2 < b3 /\ b3 < w1.heap.size):=⟨by omega,by have:=R1.lt (by simp);omega,by have:=R2.lt (by simp);omega,R3.lt (by simp)⟩;obtain ⟨B,hB⟩:=eX w1.heap.size;have HB:=yB hB;clear e1 e2 e3 e4 e5 e6 hsz R1 R2 R3 KA KB KC hB y1 kB;go_wp2_with fail
 go_loopw [4] (fun iv wr=>∃ (i:Nat) (da:Option Addr) (dc:Nat) (css:List (List Value)),i <= l.length /\ iv=.int .i64 i /\ Hid (zC wr b3 [.int .i64 k, .int .i64 num, .string nm, .slice da i dc]) /\ Hid (Acc zA9 (fun _=>False) B 4 65 wr (.slice da i dc) (l.take i) css) /\ Hid (zDo B 1 (Ex.zW l) wr (.slice da i dc) css) /\ Hid (Keeps (fun q=>q=b3) w1 wr)) (fun iv _=>l.length - (intOf iv).toNat)
 case atStart=>exact ⟨0,none,0,[],yJ _,rfl,HR3.out,Acc.nil w1,zDo.nil w1,yC _ _⟩
 case round =>
  obtain ⟨i,da,dc,css,hi,rfl,HO,HA,HRA,HK⟩:=hrel;have y1:=(HR1.out.keeps HK.out (fun e=>by have e':b1=b3:=e;have:=HBB.out;omega)).zB0;have kr:=zH wr;have HB3:Hid (b3 < B /\ B <= wr.heap.size /\ ∀ q,(Value.slice da i dc).ownBlock=some q -> B <= q /\ q < wr.heap.size):=⟨by have:=HB.out;have:=HBB.out;omega,by have:=HB.out;have:=HK.out.size;omega,fun q e=>⟨HA.out.2.2.1 q e,zO HA.out.2.1 e⟩⟩;by_cases hlt:i < l.length
  ·have i1:(0:Int) <= i:=by omega
   have i2:(i:Int) < l.length:=by omega
   have HKw:Hid (Keeps zA w wr):=HK1.out.trans HK.out (fun q hq e=>by have e':q=b3:=e;have:=HBB.out;omega);obtain ⟨g,o,a,c,e1,hg,d0,d1,d2,d3,hx⟩:=((HL.out.keeps HKw.out (fun _ _ h=>h)):zN wr F l ad).at hlt;subst e1;have hcm:=yk (yM hlt)
   have HC:Hid (∀ W,Keeps zA wr W -> Calls Tryz.prog 65 #[.agg #[.int .i64 l[i].kind, .int .i64 l[i].num, .string l[i].nm, .slice a l[i].args.length c]] W fun e w'=>zM8 W.heap.size l[i] e w' /\ Keeps zA W w') :=
    fun W hk=>IH.out _ (yM hlt) W F a c (hx.keeps hk (fun _ _ h=>h)) (by have:=HB2.out;omega)
   have d:∀ W,Keeps zA wr W -> W.cell? ⟨g,o+i*4,none⟩=some (.int .i64 l[i].kind) /\ W.cell? ⟨g,o+i*4+1,none⟩=some (.int .i64 l[i].num) /\ W.cell? ⟨g,o+i*4+2,none⟩=some (.string l[i].nm) /\ W.cell? ⟨g,o+i*4+3,none⟩=some (.slice a l[i].args.length c):=fun W q=>⟨q.cell (fun h=>h) d0,q.cell (fun h=>h) d1,q.cell (fun h=>h) d2,q.cell (fun h=>h) d3⟩
   obtain ⟨y,hy⟩:=eX (l[i]);have HY:=yB hy;rw [<- hy] at HC d hcm;have HCM:=yB hcm;clear d0 d1 d2 d3 hx hy hg hcm;have HLEN:Hid ((l.take i).length=i):=by show _=_;rw [uF];omega
   have i3:i+1 <= 1000000000:=by omega
   go_upto_region 6 with (go_at_call 65;refine (HC.out _ kr).mono ?_;rintro e w8 ⟨⟨ad2,cp2,rfl,s8,r8⟩,g8⟩;unfold exV;have HS8:=yB s8;have HR8:=yB r8;have HK8:=yB g8;clear s8 g8 r8)
   obtain ⟨b7,w9,e1,e2,R7,K9,_⟩:=newRow w8 [.int .i64 y.kind, .int .i64 y.num, .string y.nm, .slice ad2 y.args.length cp2] 65;try rw [e1]
   try rw [e2]
   have y7:=R7.zB0;have HK9:=yB (HK8.out.zB K9);have HO9:=yB (HO.out.keeps HK9.out (fun h=>h));have y3:=HO9.out.zB0;have k9:=zH w9;have HK89:=yB K9;clear e1 e2 R7 K9 d y1 kr;go_upto_region 4 with (at_builtin;refine zI _ (by rfl) _ _ 63 (by rfl) 0 65 j0 _ 4 56 Tryz.underlying63 hj0 hz0 hz1 hz2 rfl (by decide) (.slice da i dc) i css.flatten (by rfl) (by have h1:=(HA.out.zD zFJ HK9.out).2.1;rw [HLEN.out] at h1;exact zG h1 ((yC zA w9).alloc _) (fun _ _ h=>h)) (.slice (some ⟨w9.heap.size,0,none⟩) 1 1) 1 [.int .i64 y.kind, .int .i64 y.num, .string y.nm, .slice ad2 y.args.length cp2] (by rfl) (xN (yN (yK w9 _))) rfl (by simp [Value.oneCell']) (by unfold maxLen;omega) (by omega) (yJ _) ?_;intro da2 dc2 wz hout;have HAO:=yB hout;have zr:=(HO9.out.keeps ((yC zA w9).alloc _) (fun h=>h)).keeps (xV hout (yC (fun q=>(Value.slice da i dc).ownBlock=some q) _) (fun q e _=>e)) (fun e=>by have:=HB3.out.2.2 _ e;have:=HB3.out.1;omega);have zc:=zr.cell (k:=3) rfl;have zf:=zr.free (k:=3) (by simp);have HZR:=yB zr;clear hout zr)
   have hk8:Keeps zA w9 (w9.alloc (.cells #[.int .i64 y.kind, .int .i64 y.num, .string y.nm, .slice ad2 y.args.length cp2] 65)):=(yC zA w9).alloc _;have HAOO:Hid (zAB (w9.alloc (.cells #[.int .i64 y.kind, .int .i64 y.num, .string y.nm, .slice ad2 y.args.length cp2] 65)) 0 65 4 (.slice da i dc) (i+1) (css.flatten++[.int .i64 y.kind, .int .i64 y.num, .string y.nm, .slice ad2 y.args.length cp2]) da2 dc2 wz):=HAO.out;generalize w9.alloc (.cells #[.int .i64 y.kind, .int .i64 y.num, .string y.nm, .slice ad2 y.args.length cp2] 65)=wa at hk8 HAOO;clear HAO;have HA9:=HA.out.zD zFJ (HK9.out.zB hk8);have hka:Keeps zA w8 wa:=HK89.out.zB hk8
   have hel:zA9 wa (zBU (fun _=>False) B wa (.slice da i dc)) y [.int .i64 y.kind, .int .i64 y.num, .string y.nm, .slice ad2 y.args.length cp2]:=by
    refine zA9.zFu ((HS8.out.keeps hka (fun _ _ h=>h)).mono (fun k hk=>.inr ⟨?_,yI hk.2 hka.size,fun e=>?_⟩))
    ·have h1:=hk.1;have h4:=HB3.out.2.1;omega
    ·have h0:=(HB3.out.2.2 k e).2;have h1:=hk.1;omega
   have hBa:B <= wa.heap.size:=by have h1:=HK9.out.size;have h4:=HB3.out.2.1;have:=hk8.size;omega
   have hpush:=HA9.push zFJ (fun k hk=>hk.elim) hBa hel (by decide) (ad:=da2) (cap:=dc2) (w':=wz) (by rw [HLEN.out];exact HAOO.out);rw [HLEN.out] at hpush;obtain ⟨rho',q1,q2,q3⟩:=zDM.keeps HR8.out hka (fun q h=>h.elim)
   have hrp:=HRA.out.push (HK9.out.zB hk8) (fun q h=>h.elim) HB3.out.2.1 (fun q e=>(HB3.out.2.2 q e).2) q1 q2 (cs:=[.int .i64 y.kind, .int .i64 y.num, .string y.nm, .slice ad2 y.args.length cp2]) ⟨rfl,fun j s u e1 e2=>by
    have q4:=q3.zKz HCM.out;match j with
    | 0=>simp [shp] at e1 e2;subst e1 e2;exact ⟨_,rfl⟩
    | 1=>simp [shp] at e1 e2;subst e1 e2;exact ⟨_,rfl⟩
    | 2=>simp [shp] at e1 e2;subst e1 e2;exact ⟨_,rfl⟩
    | 3=>simp [shp] at e1 e2;subst e1 e2;exact ⟨_,_,_,rfl,q4⟩
    | _+4=>simp [shp] at e1⟩ HAOO.out
   have kAO:=xV HAOO.out (yC (fun q=>(Value.slice da i dc).ownBlock=some q) _) (fun q e _=>e);have kS:Keeps (fun q=>q=b3) wz (wz.setCell ⟨b3,3,none⟩ (.slice da2 (i+1) dc2)):=(yC (fun q=>q=b3) wz).setCell (p:=⟨b3,3,none⟩) (fun _=>rfl) _;have HO2:Hid (zC (wz.setCell ⟨b3,3,none⟩ (.slice da2 (i+1) dc2)) b3 [.int .i64 k, .int .i64 num, .string nm, .slice da2 (i+1) dc2]):=HZR.out.set 3 (by simp) _
   have HA2:Hid (Acc zA9 (fun _=>False) B 4 65 (wz.setCell ⟨b3,3,none⟩ (.slice da2 (i+1) dc2)) (.slice da2 (i+1) dc2) (l.take (i+1)) (css++[[.int .i64 y.kind, .int .i64 y.num, .string y.nm, .slice ad2 y.args.length cp2]])):=by
    rw [take_at hlt,<- HY.out];exact hpush.keeps zFJ kS (fun q e=>⟨by have e':q=b3:=e;have:=HB3.out.1;omega,fun h=>h⟩)
   have HRA2:=yB (hrp.keeps kS (fun q e=>by have e':q=b3:=e;have:=HB3.out.1;omega));have HK2:Hid (Keeps (fun q=>q=b3) w1 (wz.setCell ⟨b3,3,none⟩ (.slice da2 (i+1) dc2))):=((((HK.out.trans HK9.out (fun _ _ h=>h.elim)).trans hk8 (fun _ _ h=>h.elim)).trans kAO (fun q hq e=>by have:=HB3.out.2.2 q e;have:=HB.out;omega)).trans kS (fun _ _ h=>h));clear hpush hel HA9 hk8 hka hrp q1 q2 q3 kAO kS hBa HAOO zc zf y7 y3 k9;exact J122 _
  ·obtain rfl:i=l.length:=by omega
   have HRR:=yB (HR2.out.keeps HK.out (fun e=>by have e':b2=b3:=e;have:=HBB.out;omega));have y3:=HO.out.zB0;have f20:=HRR.out.frz (k:=0) (by simp);have f21:=HRR.out.frz (k:=1) (by simp);have f22:=HRR.out.frz (k:=2) (by simp);have f23:=HRR.out.frz (k:=3) (by simp);have y2:=HRR.out.zB0;go_wp2_with fail
   have hrow:zC ((((wr.setCell ⟨b2,0,none⟩ (.int .i64 k)).setCell ⟨b2,1,none⟩ (.int .i64 num)).setCell ⟨b2,2,none⟩ (.string nm)).setCell ⟨b2,3,none⟩ (.slice da l.length dc)) b2 [.int .i64 k, .int .i64 num, .string nm, .slice da l.length dc]:=(((HRR.out.set 0 (by simp) _).set 1 (by simp) _).set 2 (by simp) _).set 3 (by simp) _;have hks:Keeps (fun q=>q=b2) wr ((((wr.setCell ⟨b2,0,none⟩ (.int .i64 k)).setCell ⟨b2,1,none⟩ (.int .i64 num)).setCell ⟨b2,2,none⟩ (.string nm)).setCell ⟨b2,3,none⟩ (.slice da l.length dc)):=((((yC (fun q=>q=b2) wr).setCell (p:=⟨b2,0,none⟩) (fun _=>rfl) _).setCell (p:=⟨b2,1,none⟩) (fun _=>rfl) _).setCell (p:=⟨b2,2,none⟩) (fun _=>rfl) _).setCell (p:=⟨b2,3,none⟩) (fun _=>rfl) _;generalize (((wr.setCell ⟨b2,0,none⟩ (.int .i64 k)).setCell ⟨b2,1,none⟩ (.int .i64 num)).setCell ⟨b2,2,none⟩ (.string nm)).setCell ⟨b2,3,none⟩ (.slice da l.length dc)=wE at hrow hks ⊢;refine xA (v:=.agg #[.int .i64 k, .int .i64 num, .string nm, .slice da l.length dc]) (by simp [results,Tryz.results65,go_sem,hrow.cell (k:=0) rfl,hrow.cell (k:=1) rfl,hrow.cell (k:=2) rfl,hrow.cell (k:=3) rfl]) rfl ?_
   have hA:=HA.out;rw [xT] at hA;obtain ⟨h1,h2⟩:=hA.elems zFJ (ad:=da) (n:=l.length) (cap:=dc) rfl;have h3:zN wr (fun k=>False \/ (B <= k /\ k < wr.heap.size)) l da:=⟨_,h1,h2⟩;have hbb:w.heap.size <= b2 /\ b2 < B /\ b3 < B /\ w.heap.size <= b3:=by have:=HBB.out;have:=HB.out;omega
   have hcr:=(HRA.out.done (n:=l.length) hA.1.symm rfl hA.2.1 (fun q e=>(HB3.out.2.2 q e).1) (by have:=HB2.out;omega)) |>.keeps hks (fun q e=>.inl (by have e':q=b2:=e;omega))
   rw [HQ.out];refine ⟨⟨da,dc,rfl,(h3.keeps hks (fun k hk e=>?_)).mono (fun k hk=>?_),?_⟩,?_⟩
   ·have e':k=b2:=e
    rcases hk with hk | hk
    ·exact hk
    ·omega
   ·rcases hk with hk | hk
    ·exact hk.elim
    ·exact ⟨by omega,yI hk.2 hks.size⟩
   ·obtain ⟨rho,g1,g2,g3⟩:=hcr
    exact ⟨rho,g1,fun q hq=>⟨by have:=(g2 q hq).1;omega,(g2 q hq).2⟩,by rw [HB2.out.2.2];exact g3⟩
   ·exact (HK1.out.trans HK.out (fun q hq e=>by have e':q=b3:=e;omega)).trans hks (fun q hq e=>by have e':q=b2:=e;omega)
theorem zJW:zAX zB6 10:=⟨fun h=>h.keeps,fun h=>h.mono,fun h=>h.len⟩
def zM3 (B:Nat) (l:List Ac) (e:Ending) (w':World):Prop:=∃ ad' cap',e=.returned (.slice ad' l.length cap') /\ zAQ w' (Since B w') l ad' /\ zMf B w' 2 (Ac.szL l+1) l.length ad'
theorem zMN (l:List Ac) (hb:Ac.szL l < 900000000) (ih:∀ l',Ac.szL l' < Ac.szL l -> ∀ (w:World) (F:Nat -> Prop) (ad:Option Addr) (cap:Nat),zAQ w F l' ad -> Calls Tryz.prog 30 #[.slice ad l'.length cap] w fun e w'=>zM3 w.heap.size l' e w' /\ Keeps zA w w') (w:World) (F:Nat -> Prop) (ad:Option Addr) (cap:Nat) (h:zAQ w F l ad) :
 Calls Tryz.prog 30 #[.slice ad l.length cap] w fun e w'=>zM3 w.heap.size l e w' /\ Keeps zA w w':=by
 have HL:=yB h;have IH:=yB ih;have HBB:=yB hb;have hl:=Ac.zAp l;have hb2:l.length < 1000000000:=by omega
 obtain ⟨j0,hj0,hz0,hz1,hz2⟩:=info_parts zJw;obtain ⟨B,hB⟩:=eX w.heap.size;have HB:=yB hB;obtain ⟨Q,hQ⟩:=eX (α:=Ending -> World -> Prop) (fun e w'=>zM3 w.heap.size l e w' /\ Keeps zA w w');rw [<- hQ];have HQ:=yB hQ;clear h ih hl hb hB hQ;go_enter Tryz.func30,Tryz.ntmps30
 go_wp2_with fail
 go_loopw [3,4] (fun v iv wr=>∃ (i:Nat) (da:Option Addr) (dc:Nat) (css:List (List Value)),i <= l.length /\ iv=.int .i64 i /\ v=.slice da i dc /\ Hid (Acc zB6 (fun _=>False) B 10 68 wr (.slice da i dc) (l.take i) css) /\ Hid (zDo B 2 (Ac.szL l) wr (.slice da i dc) css) /\ Hid (Keeps zA w wr)) (fun _ iv _=>l.length - (intOf iv).toNat)
 case atStart=>exact ⟨0,none,0,[],yJ _,rfl,rfl,Acc.nil w,zDo.nil w,yC _ _⟩
 case round =>
  obtain ⟨i,da,dc,css,hi,rfl,rfl,HA,HRA,HK⟩:=hrel;have kr:=zH wr;have HB3:Hid (B <= wr.heap.size /\ ∀ q,(Value.slice da i dc).ownBlock=some q -> B <= q /\ q < wr.heap.size):=⟨by have:=HB.out;have:=HK.out.size;omega,fun q e=>⟨HA.out.2.2.1 q e,zO HA.out.2.1 e⟩⟩;by_cases hlt:i < l.length
  ·have i1:(0:Int) <= i:=by omega
   have i2:(i:Int) < l.length:=by omega
   obtain ⟨g,o,xa,xc,ta,tc,ea,ec,e1,hg,q0,q1,q2,q3,q4,q5,q6,q7,q8,q9,hx,ht,he⟩:=((HL.out.keeps HK.out (fun _ _ h=>h)):zAQ wr F l ad).at hlt;subst e1
   have d:∀ W,Keeps zA wr W -> W.cell? ⟨g,o+i*10,none⟩=some (.int .i64 l[i].kind) /\ W.cell? ⟨g,o+i*10+1,none⟩=some (.int .i64 l[i].reg) /\ W.cell? ⟨g,o+i*10+2,none⟩=some (.int .i64 l[i].obj) /\ W.cell? ⟨g,o+i*10+3,none⟩=some (.int .i64 l[i].ex.kind) /\ W.cell? ⟨g,o+i*10+4,none⟩=some (.int .i64 l[i].ex.num) ∧
    W.cell? ⟨g,o+i*10+5,none⟩=some (.string l[i].ex.nm) /\ W.cell? ⟨g,o+i*10+6,none⟩=some (.slice xa l[i].ex.args.length xc) /\ W.cell? ⟨g,o+i*10+7,none⟩=some (.int .i64 l[i].count) /\ W.cell? ⟨g,o+i*10+8,none⟩=some (.slice ta l[i].thn.length tc) /\ W.cell? ⟨g,o+i*10+9,none⟩=some (.slice ea l[i].els.length ec) :=
    fun W hk=>⟨hk.cell (fun h=>h) q0,hk.cell (fun h=>h) q1,hk.cell (fun h=>h) q2,hk.cell (fun h=>h) q3,hk.cell (fun h=>h) q4,hk.cell (fun h=>h) q5,hk.cell (fun h=>h) q6,hk.cell (fun h=>h) q7,hk.cell (fun h=>h) q8,hk.cell (fun h=>h) q9⟩
   obtain ⟨y,hy⟩:=eX (l[i]);have HY:=yB hy;rw [<- hy] at d hx ht he;have HX:=yB hx;have HTH:=yB ht;have HEL:=yB he;have hsz:y.sz <= Ac.szL l:=Ac.zBy (by rw [hy];exact yM hlt);have hse:=Ac.zCI y;have HSZ:Hid (Ac.szL y.thn < Ac.szL l /\ Ac.szL y.els < Ac.szL l /\ y.ex.cnt < 1000000000 /\ y.ex.cnt <= Ac.szL l):=by have:=HBB.out;exact ⟨by omega,by omega,by omega,by omega⟩
   clear q0 q1 q2 q3 q4 q5 q6 q7 q8 q9 hx ht he hy hg hsz hse;have HLEN:Hid ((l.take i).length=i):=by show _=_;rw [uF];omega
   have i3:i+1 <= 1000000000:=by omega
   go_upto_region 6 with fail
   obtain ⟨b7,w7,e1,e2,R7,K7,_⟩:=newRow wr [.int .i64 y.kind, .int .i64 y.reg, .int .i64 y.obj, .int .i64 y.ex.kind, .int .i64 y.ex.num, .string y.ex.nm, .slice xa y.ex.args.length xc, .int .i64 y.count, .slice ta y.thn.length tc, .slice ea y.els.length ec] 68;try rw [e1]
   try rw [e2]
   have HB7:Hid (wr.heap.size <= b7 /\ b7 < w7.heap.size):=⟨by omega,R7.lt (by simp)⟩;have g3:=R7.frz (k:=3) (by simp);have g4:=R7.frz (k:=4) (by simp);have g5:=R7.frz (k:=5) (by simp);have g6:=R7.frz (k:=6) (by simp);have y7:=R7.zAI;have k7:=zH w7;have kr7:=K7;have HR7:=yB R7;have HK7:=yB K7;have HCX:Hid (Calls Tryz.prog 65 #[exV y.ex xa xc] w7 fun e w'=>zM8 w7.heap.size y.ex e w' /\ Keeps zA w7 w'):=zNS y.ex w7 F xa xc (HX.out.keeps K7 (fun _ _ h=>h)) HSZ.out.2.2.1;unfold exV at HCX;clear e1 e2 R7 K7;go_upto_region 7 with (go_at_call 65;refine HCX.out.mono ?_;rintro e w8 ⟨⟨ax,cx,rfl,s8,r8⟩,k8⟩;unfold exV;have HS8:=yB s8;have HP8:=yB r8;have HK8:=yB k8;clear s8 r8)
   have R9:zC ((((w8.setCell ⟨b7,3,none⟩ (.int .i64 y.ex.kind)).setCell ⟨b7,4,none⟩ (.int .i64 y.ex.num)).setCell ⟨b7,5,none⟩ (.string y.ex.nm)).setCell ⟨b7,6,none⟩ (.slice ax y.ex.args.length cx)) b7 [.int .i64 y.kind, .int .i64 y.reg, .int .i64 y.obj, .int .i64 y.ex.kind, .int .i64 y.ex.num, .string y.ex.nm, .slice ax y.ex.args.length cx, .int .i64 y.count, .slice ta y.thn.length tc, .slice ea y.els.length ec]:=((((HR7.out.keeps HK8.out (fun h=>h)).set 3 (by simp) (.int .i64 y.ex.kind)).set 4 (by simp) (.int .i64 y.ex.num)).set 5 (by simp) (.string y.ex.nm)).set 6 (by simp) (.slice ax y.ex.args.length cx);have K9:Keeps (fun q=>q=b7) w8 ((((w8.setCell ⟨b7,3,none⟩ (.int .i64 y.ex.kind)).setCell ⟨b7,4,none⟩ (.int .i64 y.ex.num)).setCell ⟨b7,5,none⟩ (.string y.ex.nm)).setCell ⟨b7,6,none⟩ (.slice ax y.ex.args.length cx)):=((((yC (fun q=>q=b7) w8).setCell (p:=⟨b7,3,none⟩) (fun _=>rfl) _).setCell (p:=⟨b7,4,none⟩) (fun _=>rfl) _).setCell (p:=⟨b7,5,none⟩) (fun _=>rfl) _).setCell (p:=⟨b7,6,none⟩) (fun _=>rfl) _;generalize (((w8.setCell ⟨b7,3,none⟩ (.int .i64 y.ex.kind)).setCell ⟨b7,4,none⟩ (.int .i64 y.ex.num)).setCell ⟨b7,5,none⟩ (.string y.ex.nm)).setCell ⟨b7,6,none⟩ (.slice ax y.ex.args.length cx)=w9 at R9 K9 ⊢;have HR9:=yB R9;have HKS9:=yB K9;have HKR9:Hid (Keeps zA wr w9):=(HK7.out.zB HK8.out).trans K9 (fun q hq e=>by exact J214 _);have kr:=HKR9.out;have k9:=zH w9;have f8:=R9.frz (k:=8) (by simp);have y9:=R9.zAI;have HCT:=yB (IH.out y.thn HSZ.out.1 w9 F ta tc (HTH.out.keeps HKR9.out (fun _ _ h=>h)));clear R9 K9 g3 g4 g5 g6 y7 k7 kr7 HCX k8;go_upto_region 8 with (go_at_call 30;refine HCT.out.mono ?_;rintro e w10 ⟨⟨at1,ct1,rfl,s8,r8⟩,k8⟩;have HS10:=yB s8;have HP10:=yB r8;have HK10:=yB k8;clear s8 r8)
   have R11:zC (w10.setCell ⟨b7,8,none⟩ (.slice at1 y.thn.length ct1)) b7 [.int .i64 y.kind, .int .i64 y.reg, .int .i64 y.obj, .int .i64 y.ex.kind, .int .i64 y.ex.num, .string y.ex.nm, .slice ax y.ex.args.length cx, .int .i64 y.count, .slice at1 y.thn.length ct1, .slice ea y.els.length ec]:=(HR9.out.keeps HK10.out (fun h=>h)).set 8 (by simp) _;have K11:Keeps (fun q=>q=b7) w10 (w10.setCell ⟨b7,8,none⟩ (.slice at1 y.thn.length ct1)):=(yC (fun q=>q=b7) w10).setCell (p:=⟨b7,8,none⟩) (fun _=>rfl) _;generalize w10.setCell ⟨b7,8,none⟩ (.slice at1 y.thn.length ct1)=w11 at R11 K11 ⊢;have HR11:=yB R11;have HKS11:=yB K11;have HKR11:Hid (Keeps zA wr w11):=(HKR9.out.zB HK10.out).trans K11 (fun q hq e=>by exact J214 _);have kr:=HKR11.out;have k11:=zH w11;have f9:=R11.frz (k:=9) (by simp);have y11:=R11.zAI;have HCE:=yB (IH.out y.els HSZ.out.2.1 w11 F ea ec (HEL.out.keeps HKR11.out (fun _ _ h=>h)));clear R11 K11 f8 k9 y9 HCT k8;go_upto_region 9 with (go_at_call 30;refine HCE.out.mono ?_;rintro e w12 ⟨⟨ae1,ce1,rfl,s8,r8⟩,k8⟩;have HS12:=yB s8;have HP12:=yB r8;have HK12:=yB k8;clear s8 r8)
   have R13:zC (w12.setCell ⟨b7,9,none⟩ (.slice ae1 y.els.length ce1)) b7 [.int .i64 y.kind, .int .i64 y.reg, .int .i64 y.obj, .int .i64 y.ex.kind, .int .i64 y.ex.num, .string y.ex.nm, .slice ax y.ex.args.length cx, .int .i64 y.count, .slice at1 y.thn.length ct1, .slice ae1 y.els.length ce1]:=(HR11.out.keeps HK12.out (fun h=>h)).set 9 (by simp) _;have K13:Keeps (fun q=>q=b7) w12 (w12.setCell ⟨b7,9,none⟩ (.slice ae1 y.els.length ce1)):=(yC (fun q=>q=b7) w12).setCell (p:=⟨b7,9,none⟩) (fun _=>rfl) _;generalize w12.setCell ⟨b7,9,none⟩ (.slice ae1 y.els.length ce1)=w13 at R13 K13 ⊢;have HR13:=yB R13;have HKS13:=yB K13;have HKR13:Hid (Keeps zA wr w13):=(HKR11.out.zB HK12.out).trans K13 (fun q hq e=>by exact J214 _);have kr:=HKR13.out;have k13:=zH w13;have y13:=R13.zAI;clear R13 K13 f9 k11 y11 HCE k8 d;go_upto_region 4 with (at_builtin;refine zI _ (by rfl) _ _ 66 (by rfl) 0 68 j0 _ 10 136 vT hj0 hz0 hz1 hz2 rfl (by decide) (.slice da i dc) i css.flatten (by rfl) (by have h1:=(HA.out.zD zJW HKR13.out).2.1;rw [HLEN.out] at h1;exact zG h1 ((yC zA w13).alloc _) (fun _ _ h=>h)) (.slice (some ⟨w13.heap.size,0,none⟩) 1 1) 1 [.int .i64 y.kind, .int .i64 y.reg, .int .i64 y.obj, .int .i64 y.ex.kind, .int .i64 y.ex.num, .string y.ex.nm, .slice ax y.ex.args.length cx, .int .i64 y.count, .slice at1 y.thn.length ct1, .slice ae1 y.els.length ce1] (by rfl) (xN (yN (yK w13 _))) rfl (by simp [Value.oneCell']) (by unfold maxLen;omega) (by omega) (yJ _) ?_;intro da2 dc2 wz hout;have HAO:=yB hout;clear hout)
   obtain ⟨cs,hcs⟩:∃ cs,cs=[Value.int .i64 y.kind, .int .i64 y.reg, .int .i64 y.obj, .int .i64 y.ex.kind, .int .i64 y.ex.num, .string y.ex.nm, .slice ax y.ex.args.length cx, .int .i64 y.count, .slice at1 y.thn.length ct1, .slice ae1 y.els.length ce1]:=⟨_,rfl⟩
   have HAO2:Hid (zAB (w13.alloc (.cells cs.toArray 68)) 0 68 10 (.slice da i dc) (i+1) (css.flatten++cs) da2 dc2 wz):=by rw [hcs];exact HAO.out
   have hka:Keeps zA w13 (w13.alloc (.cells cs.toArray 68)):=(yC zA w13).alloc _;generalize w13.alloc (.cells cs.toArray 68)=wa at HAO2 hka;clear HAO;have z7:=HB7.out;have z3:=HB3.out;have s8:=HK8.out.size;have s9:=HKS9.out.size;have s10:=HK10.out.size;have s11:=HKS11.out.size;have s12:=HK12.out.size;have s13:=HKS13.out.size;have sa:=hka.size;have hin:∀ q,w7.heap.size <= q /\ q < wa.heap.size -> zBU (fun _=>False) B wa (.slice da i dc) q:=fun q hq=>.inr ⟨by omega,hq.2,fun e=>by have:=(z3.2 q e).2;omega⟩
   have hnb:∀ q,w7.heap.size <= q -> ¬ q=b7:=fun q hq e=>by omega
   have m1:Keeps (fun q=>q=b7) w8 w10:=HKS9.out.trans HK10.out (fun _ _ h=>h.elim);have m2:Keeps (fun q=>q=b7) w10 w12:=HKS11.out.trans HK12.out (fun _ _ h=>h.elim);have m3:Keeps (fun q=>q=b7) w12 wa:=HKS13.out.trans hka (fun _ _ h=>h.elim);have p3:=((zDM.both (zDM.both HP8.out (zDV _ _ _ _) m1 (fun q e=>by have e':q=b7:=e;omega) HP10.out (zDV _ _ _ _) (by omega) (by omega)) ((zDV _ _ _ _).and (zDV _ _ _ _)) m2 (fun q e=>by have e':q=b7:=e;omega) HP12.out (zDV _ _ _ _) (by omega) (by omega)).keeps m3 (fun q e=>.inl (by have e':q=b7:=e;omega)))
   have hel:zB6 wa (zBU (fun _=>False) B wa (.slice da i dc)) y cs:=by
    rw [hcs];refine zB6.zCv y ?_ ?_ ?_
    ·exact (((HS8.out.keeps m1 (fun q hq e=>hnb q hq.1 e)).keeps m2 (fun q hq e=>hnb q hq.1 e)).keeps m3 (fun q hq e=>hnb q hq.1 e)).mono (fun q hq=>hin q ⟨hq.1,by have:=hq.2;omega⟩)
    ·exact ((HS10.out.keeps m2 (fun q hq e=>hnb q (by have:=hq.1;omega) e)).keeps m3 (fun q hq e=>hnb q (by have:=hq.1;omega) e)).mono (fun q hq=>hin q ⟨by have:=hq.1;omega,by have:=hq.2;omega⟩)
    ·exact (HS12.out.keeps m3 (fun q hq e=>hnb q (by have:=hq.1;omega) e)).mono (fun q hq=>hin q ⟨by have:=hq.1;omega,by have:=hq.2;omega⟩)
   have hpush:=(HA.out.zD zJW (HKR13.out.zB hka)).push zJW (fun k hk=>hk.elim) (by have:=HKR13.out.size;omega) hel (by decide) (ad:=da2) (cap:=dc2) (w':=wz) (by rw [HLEN.out];exact HAO2.out);rw [HLEN.out] at hpush;obtain ⟨rho',u1,u2,⟨u3,u4⟩,u5⟩:=p3
   have hrp:=HRA.out.push (HKR13.out.zB hka) (fun q h=>h.elim) z3.1 (fun q e=>(z3.2 q e).2) u1 (fun q hq=>⟨by have:=(u2 q hq).1;omega,(u2 q hq).2⟩) (cs:=cs) (by
    have v3:=u3.zKz HSZ.out.2.2.2;have v4:=u4.zKz (r':=Ac.szL l) HSZ.out.1;have v5:=u5.zKz (r':=Ac.szL l) HSZ.out.2.1;rw [hcs];refine ⟨rfl,fun j s u e1 e2=>?_⟩
    match j with
    | 0=>simp [shp] at e1 e2;subst e1 e2;exact ⟨_,rfl⟩
    | 1=>simp [shp] at e1 e2;subst e1 e2;exact ⟨_,rfl⟩
    | 2=>simp [shp] at e1 e2;subst e1 e2;exact ⟨_,rfl⟩
    | 3=>simp [shp] at e1 e2;subst e1 e2;exact ⟨_,rfl⟩
    | 4=>simp [shp] at e1 e2;subst e1 e2;exact ⟨_,rfl⟩
    | 5=>simp [shp] at e1 e2;subst e1 e2;exact ⟨_,rfl⟩
    | 6=>simp [shp] at e1 e2;subst e1 e2;exact ⟨_,_,_,rfl,v3⟩
    | 7=>simp [shp] at e1 e2;subst e1 e2;exact ⟨_,rfl⟩
    | 8=>simp [shp] at e1 e2;subst e1 e2;exact ⟨_,_,_,rfl,v4⟩
    | 9=>simp [shp] at e1 e2;subst e1 e2;exact ⟨_,_,_,rfl,v5⟩
    | _+10=>simp [shp] at e1) HAO2.out
   have hk9:Keeps zA w wz:=((HK.out.zB HKR13.out).zB hka).trans (xV HAO2.out (yC (fun q=>(Value.slice da i dc).ownBlock=some q) _) (fun q e _=>e)) (fun q hq e=>by have h1:=(z3.2 q e).1;have h2:=HB.out;omega)
   have HPU:Hid (Acc zB6 (fun _=>False) B 10 68 wz (.slice da2 (i+1) dc2) (l.take (i+1)) (css++[cs])):=by
    rw [take_at hlt,<- HY.out];exact hpush
   have HRP:=yB hrp;have HKE:=yB hk9;clear hpush hrp hk9 hel hka hin hnb hcs HAO2 m1 m2 m3 u1 u2 u3 u4 u5 z7 z3 s8 s9 s10 s11 s12 s13 sa y13 kr;go_wp2_with fail
   go_roundw
   case rel=>exact ⟨i+1,da2,dc2,_,by omega,by go_num,rfl,HPU,HRP,HKE⟩
   case measure=>simp [intOf];omega
  ·obtain rfl:i=l.length:=by omega
   go_wp2_with fail
   have hA:=HA.out;rw [xT] at hA;obtain ⟨h1,h2⟩:=hA.elems zJW (ad:=da) (n:=l.length) (cap:=dc) rfl;rw [HQ.out,<- HB.out];exact ⟨⟨da,dc,rfl,⟨_,h1.mono (fun k hk=>hk.elim False.elim (fun h=>h)),fun i y e=>(h2 i y e).mono (fun k hk=>hk.elim False.elim (fun h=>h))⟩,HRA.out.done (n:=l.length) hA.1.symm rfl hA.2.1 (fun q e=>(HB3.out.2 q e).1) (by omega)⟩,HK.out⟩
theorem zM1:∀ (N:Nat) (l:List Ac),Ac.szL l <= N -> N < 900000000 -> ∀ (w:World) (F:Nat -> Prop) (ad:Option Addr) (cap:Nat),zAQ w F l ad -> Calls Tryz.prog 30 #[.slice ad l.length cap] w fun e w'=>zM3 w.heap.size l e w' /\ Keeps zA w w':=by
 intro N
 induction N with
 | zero=>intro l h hN;exact zMN l (by omega) (fun l' h'=>absurd h' (by omega))
 | succ N ih=>intro l h hN;exact zMN l (by omega) (fun l' h'=>ih l' (by omega) (by omega))
theorem zJ6 (r:Nat) (w:World) (rho:Rho) (ca ta:Option Addr) (nc cc nt tc:Nat) (mu:Int) (h:zP w rho) (hd:zJb rho w) (hs:zCl rho 0 r nc ca) (ht:zCl rho 3 r nt ta) :
 Calls Tryz.prog 10 #[.agg #[.slice ca nc cc, .int .i64 mu, .slice ta nt tc]] w (zLn w rho):=by
 have HH:=yB h;have HD:=yB hd;have HS:=yB hs;have HT:=yB ht;clear h hd hs ht;go_enter Tryz.func10,Tryz.ntmps10
 go_upto_region 1 with fail
 obtain ⟨b1,w1,e1,e2,R1,K1,_⟩:=newRow w [.slice ca nc cc, .int .i64 mu, .slice ta nt tc] 25;try rw [e1]
 try rw [e2]
 have HR1:=yB R1;have HB1:Hid (¬ zBF rho b1):=fun q=>by have:=HD.out b1 q;omega
 have H1:=yB (HH.out.zD K1);have HK1:=yB K1;have y:=R1.zB5;have k1:=zH w1;clear e1 e2 R1 K1;go_wp2_with fail
 go_loopw [2] (fun kv wr=>∃ i:Nat,i <= nc /\ kv=.int .i64 i /\ Hid (zP wr rho /\ Keeps (zBF rho) w1 wr)) (fun kv _=>nc - (intOf kv).toNat)
 case atStart=>exact ⟨0,yJ _,rfl,H1.out,yC _ _⟩
 case round =>
  obtain ⟨i,hi0,rfl,HP⟩:=hrel;clear y k1;have y:=(HR1.out.keeps HP.out.2 HB1.out).zB5;have kr:=zH wr;by_cases hlt:i < nc
  ·have i1:(0:Int) <= i:=by omega
   have i2:(i:Int) < nc:=by omega
   obtain ⟨g,r',n,rfl,hg,hrr,hn,hle⟩:=HS.out (by omega);have hi:i < n:=by omega
   obtain ⟨v0,d0,f0⟩:=zP.num HP.out.1 hg hi 0 rfl i (by simp [shp]);have HST:Hid (zP (wr.setCell ⟨g,i,none⟩ (.int .i64 (-77))) rho /\ Keeps (zBF rho) w1 (wr.setCell ⟨g,i,none⟩ (.int .i64 (-77)))):=⟨vE HP.out.1 hg hi ⟨g,i,none⟩ 0 (by simp [shp]) rfl ⟨_,rfl⟩,HP.out.2.setCell (p:=⟨g,i,none⟩) (fun _=>zA4 hg) _⟩;clear hg hi;exact J66 _
  ·obtain rfl:i=nc:=by omega
   go_wp2_with fail
   have HP2:Hid (zP wr rho /\ Keeps (zBF rho) w1 wr):=HP.out;clear HP hlt hi0 H1;go_loopw [3] (fun kv wr=>∃ i:Nat,i <= nt /\ kv=.int .i64 i /\ Hid (zP wr rho /\ Keeps (zBF rho) w1 wr)) (fun kv _=>nt - (intOf kv).toNat)
   case atStart=>exact ⟨0,yJ _,rfl,HP2.out⟩
   case round =>
    obtain ⟨i,hi0,rfl,HP⟩:=hrel;clear y kr HP2;have y:=(HR1.out.keeps HP.out.2 HB1.out).zB5;have kr:=zH wr;by_cases hlt:i < nt
    ·have i1:(0:Int) <= i:=by omega
     have i2:(i:Int) < nt:=by omega
     obtain ⟨g,r',n,rfl,hg,hrr,hn,hle⟩:=HT.out (by omega);have hi:i < n:=by omega
     have HG:=yB hg;have HI2:=yB hi;obtain ⟨v0,d0,f0⟩:=zP.num HP.out.1 hg hi 0 rfl (i*2) (by simp [shp]);obtain ⟨t1,n1,c1,d1,f1,s1⟩:=zP.row HP.out.1 hg hi 1 rfl (i*2+1) (by simp [shp]);have HC:=yB (zIy r' wr rho t1 n1 c1 HP.out.1 (fun q e=>yI (HD.out q e) (yX HK1.out.size HP.out.2.size)) s1);clear hg hi s1 f0 f1;go_upto_region 9 with (go_at_call 35;refine HC.out.mono ?_;rintro e w2 ⟨rfl,h2,k2⟩;have HP2:Hid (zP w2 rho /\ Keeps (zBF rho) w1 w2):=⟨h2,HP.out.2.trans k2 (fun _ _ h=>h)⟩;clear h2 k2)
     have hr:=HR1.out.keeps HP2.out.2 HB1.out;clear y d0 d1 HC kr;have y:=hr.zB5;have kr:=zH w2;have hg:=HG.out;have hi:=HI2.out;obtain ⟨v0,d0,f0⟩:=zP.num HP2.out.1 hg hi 0 rfl (i*2) (by simp [shp]);obtain ⟨t1,n1,c1,d1,f1,s1⟩:=zP.row HP2.out.1 hg hi 1 rfl (i*2+1) (by simp [shp]);have HST:Hid (zP ((w2.setCell ⟨g,i*2,none⟩ (.int .i64 7)).setCell ⟨g,i*2+1,none⟩ (.slice none 0 0)) rho /\ Keeps (zBF rho) w1 ((w2.setCell ⟨g,i*2,none⟩ (.int .i64 7)).setCell ⟨g,i*2+1,none⟩ (.slice none 0 0))):=⟨(vE (vE HP2.out.1 hg hi ⟨g,i*2,none⟩ 0 (by simp [shp]) rfl ⟨_,rfl⟩) hg hi ⟨g,i*2+1,none⟩ 1 (by simp [shp]) rfl zFy),((HP2.out.2.setCell (p:=⟨g,i*2,none⟩) (fun _=>zA4 hg) _).setCell (p:=⟨g,i*2+1,none⟩) (fun _=>zA4 hg) _)⟩;clear hr hg hi s1;exact J66 _
    ·obtain rfl:i=nt:=by omega
     exact J125 _
end Go.Proofs.YtfokdllgnblamaaGreatDoor
