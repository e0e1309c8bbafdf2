/- Layer N: texts joined. -/
import Derived.Test.YtoapgjjepiopbaaGreatDoorN10
import Derived.Lib.BufferMore
set_option linter.all false
set_option maxHeartbeats 2000000
set_option maxRecDepth 8000
namespace Go.Proofs.YtoapgjjepiopbaaGreatDoor
theorem J23 (P:Prop) (h:P:=by
 have K7:=Lib.hid hk7;clear hr7 hk7 r3 hb7 d0 d1;go_wp2_with (go_at_call 191;refine (HS.out _ K7.out).mono ?_;rintro e w8 ⟨rfl,r8,g8⟩;have R8:=Lib.hid r8;have G8:=Lib.hid g8;clear r8 g8)
 go_roundw
 case rel=>exact ⟨i+1,v1,by omega,by go_num,R8,HDN,(HK.out.trans K7.out (fun _ _ h=>False.elim h)).trans G8.out (fun _ _ h=>h)⟩
 case measure=>simp [intOf];omega):P:=h
theorem J58 (P:Prop) (h:P:=by
 rcases hO.2.2 kb (by rw [Nat.zero_add];exact e) with h1 | h1
 ·simp [Value.ownBlock] at h1;omega
 ·simp at h1;omega):P:=h
theorem J96 (P:Prop) (h:P:=by rw [this,Nat.add_mul_div_left _ _ hp];omega):P:=h
theorem J98 (P:Prop) (h:P:=by
 have:=hO.1
 rw [Nat.zero_add,List.nil_append] at this;exact this):P:=h
theorem J151 (P:Prop) (h:P:=by intro q hq;simp only [List.mem_cons,List.not_mem_nil,or_false] at hq;rcases hq with rfl;rfl):P:=h
theorem J153 (P:Prop) (h:P:=by rw [hb1];exact (zC.zG (heap_alloc_new w _)).alloc _):P:=h
theorem J175 (P:Prop) (h:P:=by rw [hb5];exact zC.zG (heap_alloc_new wr _)):P:=h
theorem J187 (P:Prop) (h:P:=by have e':q=c:=e;have:=HCW.out;omega):P:=h
theorem J209 (P:Prop) (h:P:=by simp [Value.ownBlock] at e;omega):P:=h
theorem J210 (P:Prop) (h:P:=by rw [hc];exact zC.zG (zW w _ _)):P:=h
def zAT:List (List St) -> Bool
 | []=>true
 | t :: r=>St.zAl t&&zAT r
def zy:List (List St) -> Nat
 | []=>0
 | t :: r=>max (St.zk 1 t) (zy r)
def zAH:List (List St) -> Nat
 | []=>0
 | t :: r=>St.zM t+zAH r
def zBC:List (List St) -> Nat
 | []=>0
 | t :: r=>1+St.szL t+zBC r
def zCn:List (List St) -> Prop
 | []=>True
 | t :: r=>St.zA4 t /\ zCn r
theorem zC4 {ts:List (List St)} {t:List St} (h:t ∈ ts):St.szL t < zBC ts:=by
 induction ts with
 | nil=>cases h
 | cons x r ih =>
   simp only [zBC];rcases List.mem_cons.1 h with e | e
   ·subst e;omega
   ·have:=ih e;omega
theorem zIN {ts:List (List St)} (hn:zCn ts) {t:List St} (h:t ∈ ts):St.zA4 t:=by
 induction ts with
 | nil=>cases h
 | cons x r ih =>
   simp only [zCn] at hn;rcases List.mem_cons.1 h with e | e
   ·subst e;exact hn.1
   ·exact ih hn.2 e
theorem zER (ts:List (List St)):zy ts <= 1+zBC ts:=by
 induction ts with
 | nil=>simp [zy]
 | cons t r ih =>
   have:=St.zB4 1 t
   simp only [zy,zBC];omega
theorem zHl (ts:List (List St)):zAH ts <= zBC ts:=by
 induction ts with
 | nil=>simp [zAH]
 | cons t r ih =>
   have:=St.zCi t
   simp only [zAH,zBC];omega
theorem zHJ (ts:List (List St)):ts.length <= zBC ts:=by
 induction ts with
 | nil=>simp
 | cons t r ih=>simp only [zBC,List.length_cons];omega
theorem zKn:∀ (i:Nat) (l:List (List St)),zAH l+zBC (l.drop i) <= zBC l+zAH (l.drop i)
 | 0,l=>by rw [List.drop_zero];omega
 | i+1,[]=>by simp [zAH,zBC]
 | i+1,x :: r=>by
   have h1:=zKn i r;have h2:=St.zCi x;rw [List.drop_succ_cons];simp only [zAH,zBC];omega
def zAP (w:World) (F:Nat -> Prop) (nm:ByteArray) (ts:List (List St)) (ad:Option Addr):Prop :=
 ts.length <= 1000 /\ ∀ i (hi:i < ts.length),∃ g o ba bc,ad=some ⟨g,o,none⟩ /\ F g /\ w.cell? ⟨g,o+i*2,none⟩=some (.string nm) /\ w.cell? ⟨g,o+i*2+1,none⟩=some (.slice ba ts[i].length bc) /\ zm w F ts[i] ba
theorem zAP.len {w:World} {F:Nat -> Prop} {nm:ByteArray} {ts:List (List St)} {ad:Option Addr} (h:zAP w F nm ts ad):ts.length <= 1000:=h.1
theorem zAP.at {w:World} {F:Nat -> Prop} {nm:ByteArray} {ts:List (List St)} {ad:Option Addr} (h:zAP w F nm ts ad) {i:Nat} (hi:i < ts.length) :
 ∃ g o ba bc,ad=some ⟨g,o,none⟩ /\ F g /\ w.cell? ⟨g,o+i*2,none⟩=some (.string nm) /\ w.cell? ⟨g,o+i*2+1,none⟩=some (.slice ba ts[i].length bc) /\ zm w F ts[i] ba:=h.2 i hi
theorem zAP.keeps {S F:Nat -> Prop} {w w':World} {nm:ByteArray} {ts:List (List St)} {ad:Option Addr} (h:zAP w F nm ts ad) (hk:Keeps S w w') (hS:∀ k,F k -> ¬ S k):zAP w' F nm ts ad:=by
 refine ⟨h.1,fun i hi=>?_⟩
 obtain ⟨g,o,ba,bc,e,hg,c0,c1,hx⟩:=h.2 i hi;exact ⟨g,o,ba,bc,e,hg,hk.cell (p:=⟨g,_,none⟩) (hS g hg) c0,hk.cell (p:=⟨g,_,none⟩) (hS g hg) c1,hx.keeps hk hS⟩
theorem zAP.mono {F F':Nat -> Prop} {w:World} {nm:ByteArray} {ts:List (List St)} {ad:Option Addr} (h:zAP w F nm ts ad) (hF:∀ k,F k -> F' k):zAP w F' nm ts ad:=by
 refine ⟨h.1,fun i hi=>?_⟩
 obtain ⟨g,o,ba,bc,e,hg,c0,c1,hx⟩:=h.2 i hi;exact ⟨g,o,ba,bc,e,hF g hg,c0,c1,hx.mono hF⟩
end Go.Proofs.YtoapgjjepiopbaaGreatDoor
namespace Go.Proofs.YtoapgjjepiopbaaGreatDoor
open Go.RowKit
theorem zI7 (nm:ByteArray) (ts:List (List St)) (w:World) (F:Nat -> Prop) (pca pma ta:Option Addr) (pcn pcc pmn pmc tc c:Nat) (b:Bool) (h:zAP w F nm ts ta) (hnn:zCn ts) (hF:¬ F c) (hc:zC w c [(.bool b)]) (hb:zBC ts < 900000000) :
 Calls Tryz.prog 138 #[.agg #[.func (.func 134) #[] #[.pointer (some ⟨c,0,none⟩)], .func (.func 136) #[] #[.pointer (some ⟨c,0,none⟩)]], .agg #[.slice pca pcn pcc, .slice pma pmn pmc, .slice ta ts.length tc]] w fun e w'=>e=.returned (.tuple #[]) /\ zC w' c [(.bool (b&&zAT ts))] /\ Keeps (fun q=>q=c) w w':=by
 have HL:=Lib.hid h;have HF:=Lib.hid hF;have HCR:=Lib.hid hc;have HN:=Lib.hid hnn;have hl:ts.length <= 1000000000:=by have:=h.len;omega
 have HB:=Lib.hid hb;obtain ⟨tot,ht⟩:=eX (α:=Bool) ((b&&zAT ts));have HT0:=Lib.hid ht;rw [<- ht];have hlt0:=hc.lt (by simp);have hlt:=Lib.hid hlt0;clear h hF hc hb ht hlt0 hnn;go_enter Tryz.func138,Tryz.ntmps138
 go_upto_region 1 with fail
 obtain ⟨b3,hb3⟩:=eX w.heap.size;obtain ⟨b4,hb4⟩:=eX (w.heap.size+1);have hr3:zC ((w.alloc (.cells #[.func (.func 134) #[] #[.pointer (some ⟨c,0,none⟩)], .func (.func 136) #[] #[.pointer (some ⟨c,0,none⟩)]] 234)).alloc (.cells #[.slice pca pcn pcc, .slice pma pmn pmc, .slice ta ts.length tc] 102)) b3 [.func (.func 134) #[] #[.pointer (some ⟨c,0,none⟩)], .func (.func 136) #[] #[.pointer (some ⟨c,0,none⟩)]]:=J164 _;have hr4:zC ((w.alloc (.cells #[.func (.func 134) #[] #[.pointer (some ⟨c,0,none⟩)], .func (.func 136) #[] #[.pointer (some ⟨c,0,none⟩)]] 234)).alloc (.cells #[.slice pca pcn pcc, .slice pma pmn pmc, .slice ta ts.length tc] 102)) b4 [.slice pca pcn pcc, .slice pma pmn pmc, .slice ta ts.length tc]:=J171 _;have hk1:Keeps zA w ((w.alloc (.cells #[.func (.func 134) #[] #[.pointer (some ⟨c,0,none⟩)], .func (.func 136) #[] #[.pointer (some ⟨c,0,none⟩)]] 234)).alloc (.cells #[.slice pca pcn pcc, .slice pma pmn pmc, .slice ta ts.length tc] 102)):=((Keeps.refl _ _).alloc _).alloc _;rw [<- hb4,<- hb3];generalize (w.alloc (.cells #[.func (.func 134) #[] #[.pointer (some ⟨c,0,none⟩)], .func (.func 136) #[] #[.pointer (some ⟨c,0,none⟩)]] 234)).alloc (.cells #[.slice pca pcn pcc, .slice pma pmn pmc, .slice ta ts.length tc] 102)=w1 at hr3 hr4 hk1 ⊢;have HNE:Hid (b3 ≠ c):=by show _ ≠ _;have:=hlt.out;omega
 have R3:=Lib.hid hr3;have K1:=Lib.hid hk1;have RC:Hid (zC w1 c [(.bool b)]):=HCR.out.keeps hk1 (fun h=>h);have HLC:Hid (c < w1.heap.size):=RC.out.lt (by simp);obtain ⟨d0,d1,d2⟩:=hr4.three;clear hr3 hr4 hk1 hb3 hb4 HCR;go_wp2_with fail
 clear d0 d1 d2;go_loopw [9] (fun iv wr=>∃ (i:Nat) (v:Bool),i <= ts.length /\ iv=.int .i64 i /\ Hid (zC wr c [(.bool v)]) /\ Hid ((v&&zAT (ts.drop i))=tot) /\ Hid (Keeps (fun q=>q=c) w1 wr)) (fun iv _=>ts.length - (intOf iv).toNat)
 case atStart=>exact ⟨0,b,Nat.zero_le _,rfl,RC,by show _=_;rw [List.drop_zero];exact HT0.out.symm,Keeps.refl _ _⟩
 case round =>
  obtain ⟨i,v,hi,rfl,HV,HD,HK⟩:=hrel;by_cases hlt:i < ts.length
  ·have i1:(0:Int) <= i:=by omega
   have i2:(i:Int) < ts.length:=by omega
   have hd:=HD.out;rw [drop_at hlt] at hd;simp only [zAT] at hd;have hFc:∀ q,F q -> ¬ (fun q=>q=c) q:=fun q hq e=>HF.out (J170 _)
   obtain ⟨g,o,ba,bc,e1,hg,d0,d1,hx⟩:=((HL.out.keeps K1.out (fun _ _ h=>h):zAP w1 F nm ts ta).keeps HK.out hFc).at hlt;subst e1;have hsz:=zC4 (List.getElem_mem hlt);have hB:=HB.out;obtain ⟨v1,hv1⟩:=eX (α:=Bool) ((v&&St.zAl ts[i]))
   have HS:Hid (∀ W,Keeps zA wr W -> Calls Tryz.prog 191 #[.agg #[.func (.func 134) #[] #[.pointer (some ⟨c,0,none⟩)], .func (.func 136) #[] #[.pointer (some ⟨c,0,none⟩)]], .slice ba ts[i].length bc, .int .i64 1] W fun e w'=>e=.returned (.tuple #[]) /\ zC w' c [(.bool v1)] /\ Keeps (fun q=>q=c) W w'):=by
    rw [hv1];exact fun W hk=>zOJ ts[i] W F ba bc c 1 v (hx.keeps hk (fun _ _ h=>h)) (zIN HN.out (List.getElem_mem hlt)) HF.out (HV.out.keeps hk (fun h=>h)) (by omega)
   have HDN:Hid ((v1&&zAT (ts.drop (i+1)))=tot):=by
    show _=_
    rw [hv1];rw [<- hd];simp [Bool.and_assoc]
   clear hx hFc hd hsz hB hv1;generalize ts[i].length=x1 at d1 HS;go_upto_region 4 with fail
   obtain ⟨b7,hb7⟩:=eX wr.heap.size;have hr7:zC (wr.alloc (.cells #[.string nm, .slice ba x1 bc] 111)) b7 [.string nm, .slice ba x1 bc]:=J157 _;have hk7:Keeps zA wr (wr.alloc (.cells #[.string nm, .slice ba x1 bc] 111)):=(Keeps.refl _ _).alloc _;rw [<- hb7];generalize wr.alloc (.cells #[.string nm, .slice ba x1 bc] 111)=w7 at hr7 hk7 ⊢;have y1:=hr7.cell (k:=1) (v:=.slice ba x1 bc) rfl;have r3:=(R3.out.keeps HK.out (fun e=>HNE.out e)).keeps hk7 (fun h=>h);have q0:=r3.cell (k:=0) (v:=.func (.func 134) #[] #[.pointer (some ⟨c,0,none⟩)]) rfl;have q1:=r3.cell (k:=1) (v:=.func (.func 136) #[] #[.pointer (some ⟨c,0,none⟩)]) rfl;exact J23 _
  ·obtain rfl:i=ts.length:=by omega
   have hd:=HD.out;rw [List.drop_length] at hd;simp only [zAT] at hd;have hd2:v=tot:=by rw [<- hd];simp
   exact J13 _
def zBo (w:World) (F:Nat -> Prop) (cs:List Int) (ad:Option Addr):Prop :=
 ∀ i (hi:i < cs.length),∃ g o,ad=some ⟨g,o,none⟩ /\ F g /\ w.cell? ⟨g,o+i*2,none⟩=some (.string xNm) /\ w.cell? ⟨g,o+i*2+1,none⟩=some (.int .i64 cs[i])
theorem zBo.keeps {S F:Nat -> Prop} {w w':World} {cs:List Int} {ad:Option Addr} (h:zBo w F cs ad) (hk:Keeps S w w') (hS:∀ k,F k -> ¬ S k):zBo w' F cs ad:=by
 intro i hi
 obtain ⟨g,o,e,hg,c0,c1⟩:=h i hi;exact ⟨g,o,e,hg,hk.cell (p:=⟨g,_,none⟩) (hS g hg) c0,hk.cell (p:=⟨g,_,none⟩) (hS g hg) c1⟩
theorem zX.at {w:World} {F:Nat -> Prop} {ad:Option Addr} {n cap:Nat} (h:zX w F (.slice ad n cap) n) {i:Nat} (hi:i < n) :
 ∃ g o,ad=some ⟨g,o,none⟩ /\ F g /\ w.cell? ⟨g,o+i,none⟩=some (.string xNm):=by
 obtain ⟨ad',cap',e,h1⟩:=h;have e':ad=ad':=by injection e
 subst e';exact h1 i hi
theorem zGx (cs:List Int) (mn:Nat) (ts:List (List St)) (w:World) (F:Nat -> Prop) (ca ma ta:Option Addr) (cc mc tc:Nat) (hcl:zBo w F cs ca) (hms:zX w F (.slice ma mn mc) mn) (h:zAP w F xNm ts ta) (hnn:zCn ts) (hF:∀ k,F k -> k < w.heap.size) (hb:zBC ts < 900000000) (hcs:cs.length <= 1000) (hmn:mn <= 1000) :
 Calls Tryz.prog 83 #[.agg #[.slice ca cs.length cc, .slice ma mn mc, .slice ta ts.length tc]] w fun e w'=>e=.returned (.bool (cs.all zBr&&zAT ts)) /\ Keeps zA w w':=by
 have hmf:∀ (fn:Fn) (first cap:Array Value) (w:World),(Instr.makeFunc fn first cap).run Tryz.prog w=.ok (.func fn first cap) w:=fun _ _ _ _=>rfl
 have HL:=Lib.hid h;have HCL:=Lib.hid hcl;have HMS:=Lib.hid hms;have HF:=Lib.hid hF;have HB:=Lib.hid hb;have HN:=Lib.hid hnn;have hl:ts.length <= 1000:=h.len;obtain ⟨r,hr⟩:=eX (α:=Bool) ((cs.all zBr&&zAT ts));have HR:=Lib.hid hr;rw [<- hr];clear h hcl hms hF hb hr hnn;go_enter Tryz.func83,Tryz.ntmps83
 go_upto_region 2 with fail
 obtain ⟨b1,hb1⟩:=eX w.heap.size;obtain ⟨c,hc⟩:=eX (w.heap.size+1);have hr1:zC ((w.alloc (.cells #[.slice ca cs.length cc, .slice ma mn mc, .slice ta ts.length tc] 102)).alloc (.cells #[.bool true] 4)) b1 [.slice ca cs.length cc, .slice ma mn mc, .slice ta ts.length tc]:=J153 _;have hrc:zC ((w.alloc (.cells #[.slice ca cs.length cc, .slice ma mn mc, .slice ta ts.length tc] 102)).alloc (.cells #[.bool true] 4)) c [.bool true]:=J210 _;have hk1:Keeps zA w ((w.alloc (.cells #[.slice ca cs.length cc, .slice ma mn mc, .slice ta ts.length tc] 102)).alloc (.cells #[.bool true] 4)):=((Keeps.refl _ _).alloc _).alloc _;have HCW:Hid (w.heap.size <= c):=by show _ <= _;omega
 have HBC:Hid (b1 ≠ c):=by show _ ≠ _;omega
 rw [<- hc,<- hb1];generalize (w.alloc (.cells #[.slice ca cs.length cc, .slice ma mn mc, .slice ta ts.length tc] 102)).alloc (.cells #[.bool true] 4)=w1 at hr1 hrc hk1 ⊢;have HFc:Hid (∀ q,F q -> ¬ (fun q=>q=c) q):=fun q hq e=>by have e':q=c:=e;have:=HF.out q hq;have:=HCW.out;omega
 have CL1:Hid (zBo w1 F cs ca):=HCL.out.keeps hk1 (fun _ _ h=>h);have MS1:Hid (zX w1 F (.slice ma mn mc) mn):=HMS.out.keeps hk1 (fun _ _ h=>h);have TS1:Hid (zAP w1 F xNm ts ta):=HL.out.keeps hk1 (fun _ _ h=>h);have K1:=Lib.hid hk1;have R1:=Lib.hid hr1;have RC:=Lib.hid hrc;have HLC:Hid (c < w1.heap.size):=hrc.lt (by simp);obtain ⟨d0,d1,d2⟩:=hr1.three;clear hr1 hrc hk1 hb1 hc HCL HMS HL;go_upto_region 3 with fail
 clear d0 d1 d2;go_loopw [13] (fun iv wr=>∃ (i:Nat) (v:Bool),i <= cs.length /\ iv=.int .i64 i /\ Hid (zC wr c [.bool v]) /\ Hid ((v&&((cs.drop i).all zBr&&zAT ts))=r) /\ Hid (Keeps (fun q=>q=c) w1 wr)) (fun iv _=>cs.length - (intOf iv).toNat)
 case atStart=>exact ⟨0,true,Nat.zero_le _,rfl,RC,by show _=_;rw [List.drop_zero,HR.out];simp,Keeps.refl _ _⟩
 case round =>
  obtain ⟨i,v,hi,rfl,HV,HD,HK⟩:=hrel;by_cases hlt:i < cs.length
  ·have i1:(0:Int) <= i:=by omega
   have i2:(i:Int) < cs.length:=by omega
   have hd:=HD.out;rw [drop_at hlt,List.all_cons] at hd;obtain ⟨g,o,e1,hg,d0,d1⟩:=(CL1.out.keeps HK.out HFc.out) i hlt;subst e1;have hq:zBr cs[i]=(decide (-2147483647 <= cs[i])&&decide (cs[i] <= 2147483647)):=rfl;rw [hq] at hd;have HDD:=Lib.hid hd;clear hd hq;generalize cs[i]=x at d1 HDD;go_upto_region 5 with fail
   obtain ⟨b5,hb5⟩:=eX wr.heap.size;have hr5:zC (wr.alloc (.cells #[.string xNm, .int .i64 x] 182)) b5 [.string xNm, .int .i64 x]:=J175 _;have hk5:Keeps zA wr (wr.alloc (.cells #[.string xNm, .int .i64 x] 182)):=(Keeps.refl _ _).alloc _;have hn5:Hid (b5 ≠ c):=by show _ ≠ _;have:=HLC.out;have:=HK.out.size;omega
   rw [<- hb5];generalize wr.alloc (.cells #[.string xNm, .int .i64 x] 182)=w5 at hr5 hk5 ⊢;have rc:=HV.out.keeps hk5 (fun h=>h);have cc0:=rc.cell (k:=0) (v:=.bool v) rfl;have fc0:=rc.free (k:=0) (by simp);have y0:=hr5.cell (k:=0) (v:=.string xNm) rfl;have y1:=hr5.cell (k:=1) (v:=.int .i64 x) rfl;have K5:=Lib.hid hk5;have R5:=Lib.hid hr5;have RC5:=Lib.hid rc;clear hr5 hk5 hb5 rc d0 d1;cases v
   ·go_wp2_with fail
    go_roundw
    case rel=>exact ⟨i+1,false,by omega,by go_num,RC5.out.set 0 (by simp) _,by show _=_;rw [<- HDD.out];simp,(HK.out.trans K5.out (fun _ _ h=>False.elim h)).setCell (p:=⟨c,0,none⟩) (fun _=>rfl) _⟩
    case measure=>simp [intOf];omega
   ·rcases Int.lt_or_le x (-2147483647) with h1 | h1
    ·go_wp2_with (go_at_call 133;refine (zBB xNm (.inl rfl) _).mono ?_;rintro e w2 ⟨rfl,g1⟩;have r2:=RC5.out.keeps g1 (fun h=>h);have cc2:=r2.cell (k:=0) (v:=.bool true) rfl;have fc2:=r2.free (k:=0) (by simp);have y12:=(R5.out.keeps g1 (fun h=>h)).cell (k:=1) (v:=.int .i64 x) rfl;have R2:=Lib.hid r2;have G1:=Lib.hid g1;clear g1 r2 cc0 fc0 y0 y1)
     go_roundw
     case rel=>exact ⟨i+1,false,by omega,by go_num,R2.out.set 0 (by simp) _,by show _=_;rw [<- HDD.out];have:decide (-2147483647 <= x)=false:=decide_eq_false (by omega);rw [this];simp,(HK.out.trans (K5.out.zB G1.out) (fun _ _ h=>False.elim h)).setCell (p:=⟨c,0,none⟩) (fun _=>rfl) _⟩
     case measure=>simp [intOf];omega
    ·obtain ⟨z,hz⟩:=eX (decide (x <= 2147483647))
     have HZ:Hid ((z&&((cs.drop (i+1)).all zBr&&zAT ts))=r):=by
      show _=_
      rw [<- HDD.out,decide_eq_true h1,hz];simp [Bool.and_assoc]
     have hx:x <= 2147483647 /\ z=true \/ ¬ x <= 2147483647 /\ z=false:=by
      by_cases h:x <= 2147483647
      ·exact .inl ⟨h,by rw [hz];simp [h]⟩
      ·exact .inr ⟨h,by rw [hz];simp [h]⟩
     clear hz;rcases hx with ⟨h2,rfl⟩ | ⟨h2,rfl⟩
     ·go_wp2_with (go_at_call 133;refine (zBB xNm (.inl rfl) _).mono ?_;rintro e w2 ⟨rfl,g1⟩;have r2:=RC5.out.keeps g1 (fun h=>h);have cc2:=r2.cell (k:=0) (v:=.bool true) rfl;have fc2:=r2.free (k:=0) (by simp);have y12:=(R5.out.keeps g1 (fun h=>h)).cell (k:=1) (v:=.int .i64 x) rfl;have R2:=Lib.hid r2;have G1:=Lib.hid g1;clear g1 r2 cc0 fc0 y0 y1)
      go_roundw
      case rel=>exact ⟨i+1,true,by omega,by go_num,R2.out.set 0 (by simp) _,HZ,(HK.out.trans (K5.out.zB G1.out) (fun _ _ h=>False.elim h)).setCell (p:=⟨c,0,none⟩) (fun _=>rfl) _⟩
      case measure=>simp [intOf];omega
     ·go_wp2_with (go_at_call 133;refine (zBB xNm (.inl rfl) _).mono ?_;rintro e w2 ⟨rfl,g1⟩;have r2:=RC5.out.keeps g1 (fun h=>h);have cc2:=r2.cell (k:=0) (v:=.bool true) rfl;have fc2:=r2.free (k:=0) (by simp);have y12:=(R5.out.keeps g1 (fun h=>h)).cell (k:=1) (v:=.int .i64 x) rfl;have R2:=Lib.hid r2;have G1:=Lib.hid g1;clear g1 r2 cc0 fc0 y0 y1)
      go_roundw
      case rel =>
       have h3:decide (x <= 2147483647)=false:=decide_eq_false (by omega);rw [h3];exact ⟨i+1,false,by omega,by go_num,R2.out.set 0 (by simp) _,HZ,(HK.out.trans (K5.out.zB G1.out) (fun _ _ h=>False.elim h)).setCell (p:=⟨c,0,none⟩) (fun _=>rfl) _⟩
      case measure=>simp [intOf];omega
  ·obtain rfl:i=cs.length:=by omega
   have hd:=HD.out;rw [List.drop_length,List.all_nil,Bool.true_and] at hd;have HD2:=Lib.hid hd;clear hd HD;obtain ⟨d0,d1,d2⟩:=(R1.out.keeps HK.out (fun e=>HBC.out e)).three;have CLX:=CL1;clear CL1;go_upto_region 8 with fail
   clear d0 d1 d2;go_loopw [37] (fun iv ws=>∃ (j:Nat) (v:Bool),j <= mn /\ iv=.int .i64 j /\ Hid (zC ws c [.bool v]) /\ Hid ((v&&zAT ts)=r) /\ Hid (Keeps (fun q=>q=c) w1 ws)) (fun iv _=>mn - (intOf iv).toNat)
   case atStart=>exact ⟨0,v,Nat.zero_le _,rfl,HV,HD2,HK⟩
   case round =>
    clear HV HD2 HK hi;clear v;obtain ⟨j,v,hj,rfl,HV,HD,HK⟩:=hrel;by_cases hlt:j < mn
    ·have i1:(0:Int) <= j:=by omega
     have i2:(j:Int) < mn:=by omega
     obtain ⟨g,o,e1,hg,d0⟩:=(MS1.out.keeps HK.out HFc.out).at hlt;subst e1;have cc0:=HV.out.cell (k:=0) (v:=.bool v) rfl;have fc0:=HV.out.free (k:=0) (by simp);cases v
     ·go_wp2_with fail
      go_roundw
      case rel=>exact ⟨j+1,false,by omega,by go_num,HV.out.set 0 (by simp) _,HD,HK.out.setCell (p:=⟨c,0,none⟩) (fun _=>rfl) _⟩
      case measure=>simp [intOf];omega
     ·go_wp2_with (go_at_call 133;refine (zBB xNm (.inl rfl) _).mono ?_;rintro e w2 ⟨rfl,g1⟩;have r2:=HV.out.keeps g1 (fun h=>h);have cc2:=r2.cell (k:=0) (v:=.bool true) rfl;have fc2:=r2.free (k:=0) (by simp);have R2:=Lib.hid r2;have G1:=Lib.hid g1;clear g1 r2 cc0 fc0 d0)
      go_roundw
      case rel=>exact ⟨j+1,true,by omega,by go_num,R2.out.set 0 (by simp) _,HD,(HK.out.trans G1.out (fun _ _ h=>False.elim h)).setCell (p:=⟨c,0,none⟩) (fun _=>rfl) _⟩
      case measure=>simp [intOf];omega
    ·obtain rfl:j=mn:=by omega
     obtain ⟨d0,d1,d2⟩:=(R1.out.keeps HK.out (fun e=>HBC.out e)).three;go_upto_region 13 with fail
     clear d0 d1 d2;go_loopw [50] (fun iv ws=>∃ (j:Nat) (v:Bool),j <= ts.length /\ iv=.int .i64 j /\ Hid (zC ws c [.bool v]) /\ Hid ((v&&zAT ts)=r) /\ Hid (Keeps (fun q=>q=c) w1 ws)) (fun iv _=>ts.length - (intOf iv).toNat)
     case atStart=>exact ⟨0,v,Nat.zero_le _,rfl,HV,HD,HK⟩
     case round =>
      clear HV HD HK hj;clear v;obtain ⟨j,v,hj,rfl,HV,HD,HK⟩:=hrel;by_cases hlt:j < ts.length
      ·have i1:(0:Int) <= j:=by omega
       have i2:(j:Int) < ts.length:=by omega
       obtain ⟨g,o,ba,bc,e1,hg,d0,d1,_⟩:=(TS1.out.keeps HK.out HFc.out).at hlt;subst e1;generalize ts[j].length=x1 at d1;go_upto_region 15 with fail
       obtain ⟨b5,hb5⟩:=eX wr.heap.size;have hr5:zC (wr.alloc (.cells #[.string xNm, .slice ba x1 bc] 111)) b5 [.string xNm, .slice ba x1 bc]:=J175 _;have hk5:Keeps zA wr (wr.alloc (.cells #[.string xNm, .slice ba x1 bc] 111)):=(Keeps.refl _ _).alloc _;rw [<- hb5];generalize wr.alloc (.cells #[.string xNm, .slice ba x1 bc] 111)=w5 at hr5 hk5 ⊢;have rc:=HV.out.keeps hk5 (fun h=>h);have cc0:=rc.cell (k:=0) (v:=.bool v) rfl;have fc0:=rc.free (k:=0) (by simp);have y0:=hr5.cell (k:=0) (v:=.string xNm) rfl;have K5:=Lib.hid hk5;have RC5:=Lib.hid rc;clear hr5 hk5 hb5 rc d0 d1;cases v
       ·go_wp2_with fail
        go_roundw
        case rel=>exact ⟨j+1,false,by omega,by go_num,RC5.out.set 0 (by simp) _,HD,(HK.out.trans K5.out (fun _ _ h=>False.elim h)).setCell (p:=⟨c,0,none⟩) (fun _=>rfl) _⟩
        case measure=>simp [intOf];omega
       ·go_wp2_with (go_at_call 133;refine (zBB xNm (.inl rfl) _).mono ?_;rintro e w2 ⟨rfl,g1⟩;have r2:=RC5.out.keeps g1 (fun h=>h);have cc2:=r2.cell (k:=0) (v:=.bool true) rfl;have fc2:=r2.free (k:=0) (by simp);have R2:=Lib.hid r2;have G1:=Lib.hid g1;clear g1 r2 cc0 fc0 y0)
        go_roundw
        case rel=>exact ⟨j+1,true,by omega,by go_num,R2.out.set 0 (by simp) _,HD,(HK.out.trans (K5.out.zB G1.out) (fun _ _ h=>False.elim h)).setCell (p:=⟨c,0,none⟩) (fun _=>rfl) _⟩
        case measure=>simp [intOf];omega
      ·obtain rfl:j=ts.length:=by omega
       have cc0:=HV.out.cell (k:=0) (v:=.bool v) rfl;have HD3:=HD;cases v
       ·have hr0:false=r:=by rw [<- HD.out];rfl
        clear HR HD HD3;subst hr0;go_wp2_with fail
        go_ret
        exact ⟨rfl,K1.out.trans HK.out (fun q hq e=>by exact J187 _)⟩
       ·obtain ⟨d0,d1,d2⟩:=(R1.out.keeps HK.out (fun e=>HBC.out e)).three
        have HP:Hid (Calls Tryz.prog 138 #[.agg #[.func (.func 134) #[] #[.pointer (some ⟨c,0,none⟩)], .func (.func 136) #[] #[.pointer (some ⟨c,0,none⟩)]], .agg #[.slice ca cs.length cc, .slice ma j mc, .slice ta ts.length tc]] wr fun e w'=>e=.returned (.tuple #[]) /\ zC w' c [.bool r] /\ Keeps (fun q=>q=c) wr w'):=by
         have h1:=zI7 xNm ts wr F ca ma ta cs.length cc j mc tc c true (TS1.out.keeps HK.out HFc.out) HN.out (fun h=>HFc.out c h rfl) HV.out HB.out;rw [HD.out] at h1;exact h1
        clear HR HD HD3;go_wp2_with (go_at_call 138;refine HP.out.mono ?_;rintro e w2 ⟨rfl,r2,g2⟩;have cc2:=r2.cell (k:=0) (v:=.bool r) rfl;have G2:=Lib.hid g2;clear r2 g2 cc0)
        go_ret
        exact ⟨rfl,(K1.out.trans HK.out (fun q hq e=>by exact J187 _)).trans G2.out (fun q hq e=>by exact J187 _)⟩
def zB3 (e:TypeId) (size:Nat) (w:World) (n:Nat) (cs:List Value) (r:Ending) (w':World):Prop :=
 ∃ ad cap,r=.returned (.slice ad n cap) /\ w'.ownsRow 0 e size (.slice ad n cap) n cs /\ Keeps zA w w' /\ ∀ kb,(Value.slice ad n cap).ownBlock=some kb -> w.heap.size <= kb
def xs (n:Nat):List Value:=List.replicate n (.string xNm)
theorem zNz (n:Nat):(xs n).length=n:=List.length_replicate
theorem zMg (n:Nat):xs n++[.string xNm]=xs (n+1):=by
 unfold xs;rw [<- List.replicate_succ',]
theorem zNj (n:Nat):∀ u ∈ xs n,u.oneCell'=true:=by
 intro u hu
 obtain ⟨_,rfl⟩:=List.mem_replicate.1 hu;rfl
theorem zE2:(Tryz.prog.info? 9).map (fun i=>(i.zero,i.size,i.bytes))=some (some (.string zn),1,16):=by kernel_rfl
theorem zX.zAM {w:World} {F:Nat -> Prop} {e:TypeId} {n:Nat} {v:Value} {ad:Option Addr} {cap:Nat} (h:w.ownsRow 0 e 1 v n (xs n)) (hv:v=.slice ad n cap) (hF:∀ kb,v.ownBlock=some kb -> F kb):zX w F v n:=by
 subst hv;refine ⟨ad,cap,rfl,fun i hi=>?_⟩
 obtain ⟨g,c,hv,_,_⟩:=h.form (by omega);cases hv;refine ⟨g,0,rfl,hF g rfl,?_⟩
 have hr:=zC.zAM h;rw [Nat.zero_add];exact hr.cell (k:=i) (v:=.string xNm) (by unfold xs;rw [List.getElem?_replicate,if_pos hi])
theorem zX.src {w:World} {F:Nat -> Prop} {ad:Option Addr} {n cap:Nat} (h:zX w F (.slice ad n cap) n):zU w (.slice ad n cap) n (xs n):=by
 refine ⟨ad,cap,rfl,fun hn=>?_⟩
 obtain ⟨g,o,rfl,_,_⟩:=h.at (i:=0) (by omega);refine ⟨g,o,rfl,fun j u hj=>?_⟩
 unfold xs at hj;rw [List.getElem?_replicate] at hj;split at hj
 ·rename_i hlt
  cases hj;obtain ⟨g',o',e,_,c⟩:=h.at hlt;cases e;exact c
 ·cases hj
theorem zEI (n:Nat) (hn:n <= 1000) (w:World):Calls Tryz.prog 42 #[.int .i64 n] w (zB3 9 1 w n (xs n)):=by
 obtain ⟨j0,hj0,hz0,hz1,hz2⟩:=info_parts zE2;go_enter Tryz.func42,Tryz.ntmps42
 go_wp2_with fail
 go_loopw [3,5] (fun ov iv wr=>∃ (i:Nat) (da:Option Addr) (dc:Nat),i <= n /\ iv=.int .i64 i /\ ov=.slice da i dc /\ Hid (wr.ownsRow 0 9 1 (.slice da i dc) i (xs i)) /\ Hid (Keeps zA w wr) /\ Hid (∀ kb,(Value.slice da i dc).ownBlock=some kb -> w.heap.size <= kb)) (fun _ iv _=>n - (intOf iv).toNat)
 case atStart=>exact ⟨0,none,0,Nat.zero_le _,rfl,rfl,World.ownsRow_nil _ _ _ _,Keeps.refl _ _,fun kb e=>by exact J152 _⟩
 case round =>
  obtain ⟨i,da,dc,hi,rfl,rfl,HO,HK,HB⟩:=hrel;by_cases hlt:i < n
  ·have i1:(0:Int) <= i:=by omega
   have i2:(i:Int) < n:=by omega
   go_wp2_with (at_builtin;refine zI _ (by rfl) _ _ 93 (by rfl) 0 9 j0 _ 1 16 Tryz.underlying93 hj0 hz0 hz1 hz2 rfl (by decide) (.slice da i dc) i (xs i) (by rfl) (zF HO.out ((Keeps.refl zA wr).alloc _) (fun _ _ h=>h)) (.slice (some ⟨wr.heap.size,0,none⟩) 1 1) 1 [.string xNm] (by rfl) (zC.src (zC.zG (heap_alloc_new wr _))) rfl (J151 _) (by unfold maxLen;omega) (by omega) (Nat.zero_le _) ?_;intro da2 dc2 w4 ha;have HA:=Lib.hid ha;clear ha)
   go_roundw
   case rel =>
    refine ⟨i+1,da2,dc2,by omega,by go_num,by go_num,?_,?_,?_⟩
    ·have h1:=HA.out.1
     rw [zMg] at h1;exact h1
    ·exact zi.keeps HA.out (HK.out.alloc _) (fun q e hq=>by have:=HB.out q e;omega)
    ·show ∀ kb,_ -> _
     intro kb e
     rcases HA.out.2.2 kb e with h1 | h1
     ·exact HB.out kb h1
     ·rw [h1];have:=HK.out.size;simp;omega
   case measure=>simp [intOf];omega
  ·obtain rfl:i=n:=by omega
   go_wp2_with fail
   go_ret
   exact ⟨da,dc,rfl,HO.out,HK.out,HB.out⟩
theorem zKv (w:World) (v:Value) (n:Nat) (h:zU w v n (xs n)) (hb:n <= 1000) :
 Calls Tryz.prog 87 #[v] w (zB3 9 1 w n (xs n)):=by
 obtain ⟨i0,hi0,hz0,hz1,hz2⟩:=info_parts zE2;have HS:=Lib.hid h;obtain ⟨ad,cap,rfl,hc⟩:=h
 have h0:ad=none -> n=0:=fun e=>by
  cases n with
  | zero=>rfl
  | succ a=>obtain ⟨g,o,e2,_⟩:=hc (by simp);rw [e] at e2;cases e2
 clear hc;cases ad with
 | none =>
   obtain rfl:=h0 rfl;have hnil:∀ W,(binOp .eql 93 (.slice none 0 cap) (.slice none 0 0)).run Tryz.prog W=.ok (.bool true) W:=fun W=>Lib.run_eql_slice_nil_nil W _ _ Tryz.underlying93
   go_enter Tryz.func87,Tryz.ntmps87
   go_wp2
   go_ret
   exact ⟨none,0,rfl,World.ownsRow_nil _ _ _ _,Keeps.refl _ _,fun kb e=>by exact J152 _⟩
 | some a =>
   clear h0;have HL:Hid ((xs n).length=n*1):=by show _=_;rw [zNz,Nat.mul_one]
   have HB:Hid (n <= 1000):=hb;clear hb;have hnil:∀ W,(binOp .eql 93 (.slice (some a) n cap) (.slice none 0 0)).run Tryz.prog W=.ok (.bool false) W:=fun W=>Lib.run_eql_slice_some_nil W _ _ _ Tryz.underlying93
   go_enter Tryz.func87,Tryz.ntmps87
   go_wp2_with (at_builtin;refine zI _ (by rfl) _ _ 93 (by rfl) 0 9 i0 _ 1 16 Tryz.underlying93 hi0 hz0 hz1 hz2 rfl (by decide) (.slice (some ⟨w.heap.size,0,none⟩) 0 0) 0 [] (by rfl) (World.ownsRow_lit w #[] 0 (Nat.zero_le _) (by unfold maxLen;omega) rfl) (.slice (some a) n cap) n (xs n) (by rfl) (HS.out.keeps (S:=zA) ((Keeps.refl _ _).alloc _) (fun _ _ h=>h)) HL.out (zNj n) (by have:=HB.out;unfold maxLen;omega) (by have:=HB.out;omega) (Nat.zero_le _) ?_;intro ad' cap' w6 hout;have HO:=Lib.hid hout;clear hout)
   go_ret
   have hO:=HO.out;refine ⟨ad',cap',by simp,?_,hO.keeps ((Keeps.refl _ _).alloc _) (fun k e hlt=>by exact J209 _),fun kb e=>?_⟩
   ·exact J98 _
   ·exact J58 _
theorem zJO (w:World) (g n cap:Nat) (hn:n <= cap) (hm:cap <= maxLen) :
 Calls Tryz.prog 86 #[.slice (some ⟨g,0,none⟩) n cap] w fun e w'=>e=.returned (.slice (some ⟨g,0,none⟩) n n) /\ w'=w:=by
 have h1:(0:Int) <= n:=by omega
 have h2:(n:Int) <= cap:=by omega
 have h3:(cap:Int) <= 9223372036854775807:=by unfold maxLen at hm;omega
 go_enter Tryz.func86,Tryz.ntmps86
 go_wp2
 go_ret
 exact ⟨by simp,rfl⟩
theorem zJk (w:World) :
 Calls Tryz.prog 86 #[.slice none 0 0] w fun e w'=>e=.returned (.slice none 0 0) /\ w'=w:=by
 go_enter Tryz.func86,Tryz.ntmps86
 go_wp2
 go_ret
 exact ⟨by simp,rfl⟩
theorem zLK (w:World) (ad:Option Addr) (n cap:Nat) (cs:List Value) (h:w.ownsRow 0 9 1 (.slice ad n cap) n cs) :
 Calls Tryz.prog 86 #[.slice ad n cap] w fun e w'=>e=.returned (.slice ad n n) /\ w'=w:=by
 rcases h.2 with ⟨e,rfl⟩ | ⟨g,cap',cur,e,_,_,h1,h2,_⟩
 ·cases e;exact zJk w
 ·cases e;exact zJO w g n cap h1 h2
end Go.Proofs.YtoapgjjepiopbaaGreatDoor
namespace Go.Proofs.YtoapgjjepiopbaaGreatDoor
def zw (b n:Nat):List Nat :=
 if h:n=0 \/ b < 2 then [] else n % b :: zw b (n / b)
termination_by n
decreasing_by
 have h1:n ≠ 0:=fun e=>h (.inl e)
 have h2:¬ b < 2:=fun e=>h (.inr e)
 exact Nat.div_lt_self (by omega) (by omega)
theorem zBc (b:Nat):zw b 0=[]:=by rw [zw];simp
theorem zGP {b n:Nat} (hb:2 <= b) (hn:n ≠ 0):zw b n=n % b :: zw b (n / b):=by
 rw [zw,dif_neg (by omega)]
theorem zZ {b:Nat} (hb:2 <= b) (i:Nat):∀ n,i < (zw b n).length ↔ b ^ i <= n:=by
 induction i with
 | zero =>
   intro n
   by_cases hn:n=0
   ·subst hn;simp [zBc]
   ·rw [zGP hb hn];simp;omega
 | succ i ih =>
   intro n
   by_cases hn:n=0
   ·subst hn
    have:0 < b ^ (i+1):=Nat.pow_pos (by omega)
    simp [zBc];omega
   ·rw [zGP hb hn]
    simp only [List.length_cons,Nat.add_lt_add_iff_right];rw [ih,Nat.le_div_iff_mul_le (by omega),Nat.pow_succ]
theorem zGK {b:Nat} (hb:2 <= b) (x y i:Nat) :
 (x / b ^ i % b+y / b ^ i % b+(x % b ^ i+y % b ^ i) / b ^ i) % b=(x+y) / b ^ i % b ∧
 (x / b ^ i % b+y / b ^ i % b+(x % b ^ i+y % b ^ i) / b ^ i) / b=(x % b ^ (i+1)+y % b ^ (i+1)) / b ^ (i+1):=by
 have hp:0 < b ^ i:=Nat.pow_pos (by omega)
 have e1:(x+y) / b ^ i=x / b ^ i+y / b ^ i+(x % b ^ i+y % b ^ i) / b ^ i:=by
  have hx:=Nat.div_add_mod x (b ^ i);have hy:=Nat.div_add_mod y (b ^ i)
  have:x+y=x % b ^ i+y % b ^ i+b ^ i*(x / b ^ i+y / b ^ i):=by
   rw [Nat.mul_add];omega
  exact J96 _
 constructor
 ·rw [e1]
  simp [Nat.add_mod]
 ·have hx:x % b ^ (i+1)=x % b ^ i+b ^ i*(x / b ^ i % b):=Nat.mod_pow_succ
  have hy:y % b ^ (i+1)=y % b ^ i+b ^ i*(y / b ^ i % b):=Nat.mod_pow_succ;rw [hx,hy,Nat.pow_succ,<- Nat.div_div_eq_div_mul];congr 1
  have:x % b ^ i+b ^ i*(x / b ^ i % b)+(y % b ^ i+b ^ i*(y / b ^ i % b))=x % b ^ i+y % b ^ i+b ^ i*(x / b ^ i % b+y / b ^ i % b):=by rw [Nat.mul_add];omega
  exact J96 _
theorem zGC {b:Nat} (hb:2 <= b) (x k i:Nat) :
 (x / b ^ i % b*k+x % b ^ i*k / b ^ i) % b=x*k / b ^ i % b /\ (x / b ^ i % b*k+x % b ^ i*k / b ^ i) / b=x % b ^ (i+1)*k / b ^ (i+1):=by
 have hp:0 < b ^ i:=Nat.pow_pos (by omega)
 have e1:x*k / b ^ i=x / b ^ i*k+x % b ^ i*k / b ^ i:=by
  have hx:=Nat.div_add_mod x (b ^ i)
  have:x*k=x % b ^ i*k+b ^ i*(x / b ^ i*k):=by
   rw [<- Nat.mul_assoc,<- Nat.add_mul];congr 1;omega
  exact J96 _
 constructor
 ·rw [e1]
  simp [Nat.add_mod,Nat.mul_mod]
 ·have hx:x % b ^ (i+1)=x % b ^ i+b ^ i*(x / b ^ i % b):=Nat.mod_pow_succ
  rw [hx,Nat.pow_succ,<- Nat.div_div_eq_div_mul];congr 1
  have:(x % b ^ i+b ^ i*(x / b ^ i % b))*k=x % b ^ i*k+b ^ i*(x / b ^ i % b*k):=by rw [Nat.add_mul,Nat.mul_assoc]
  exact J96 _
theorem zDK {b:Nat} (hb:2 <= b) {x y i:Nat} (h:x / b ^ (i+1)=y / b ^ (i+1)) :
 (x / b ^ i % b=y / b ^ i % b -> x / b ^ i=y / b ^ i) /\ (x / b ^ i % b < y / b ^ i % b -> x < y):=by
 have hp:0 < b ^ i:=Nat.pow_pos (by omega);have ex:=Nat.div_add_mod (x / b ^ i) b;have ey:=Nat.div_add_mod (y / b ^ i) b;rw [Nat.div_div_eq_div_mul,<- Nat.pow_succ] at ex ey;rw [h] at ex;refine ⟨fun e=>by rw [<- ex,<- ey,e],fun e=>?_⟩
 have h1:x / b ^ i < y / b ^ i:=by
  generalize b*(y / b ^ (i+1))=z at ex ey;omega
 exact Nat.lt_of_not_le fun hle=>by
  have:=Nat.div_le_div_right (c:=b ^ i) hle
  omega
end Go.Proofs.YtoapgjjepiopbaaGreatDoor
