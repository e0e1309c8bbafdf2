/- Layer R: texts joined. -/
import Derived.Test.YtnmifekgdkgknaaGreatDoorR21
import Derived.Test.YtnmifekgdkgknaaGreatDoorR43
import Derived.Test.YtnmifekgdkgknaaGreatDoorR28
import Derived.Test.YtnmifekgdkgknaaGreatDoorR15
import Derived.Laws.IdiomStrings
import Derived.Lib.UnsafeStr
import Derived.Test.YtnmifekgdkgknaaGreatDoorR02
set_option linter.unusedVariables false
set_option linter.unusedSimpArgs false
set_option linter.unnecessarySimpa false
namespace Go.Proofs.YtnmifekgdkgknaaGreatDoor
open Go.RowKit
theorem rplusV {x y:Nat} {w:World} {F:Nat -> Prop} {v u:Value} (hx:NumV w F 10 x v) (hy:NumV w F 10 y u) (lx:(dig 10 x).length <= 100000000000) (ly:(dig 10 y).length <= 100000000000) :
 Calls Tryz.prog 90 #[v,u] w fun e w'=>∃ z,e=.returned z /\ NumV w' (Since w.heap.size w') 10 (x+y) z /\ Keeps NoBlk w w':=by
 obtain ⟨xa,xc,rfl,h1⟩:=hx;obtain ⟨ya,yc,rfl,h2⟩:=hy;exact (rplus_any x y w F xa ya xc yc h1 h2 lx ly).mono fun e w' h=>h.v
theorem rtimesV {x k:Nat} {w:World} {F:Nat -> Prop} {v:Value} (hx:NumV w F 10 x v) (lx:(dig 10 x).length <= 100000000000) (hk:k <= 1000) :
 Calls Tryz.prog 105 #[v, .int .i64 k] w fun e w'=>∃ z,e=.returned z /\ NumV w' (Since w.heap.size w') 10 (x*k) z /\ Keeps NoBlk w w':=by
 obtain ⟨xa,xc,rfl,h1⟩:=hx;exact (rtimes_any x k w F xa xc h1 lx hk).mono fun e w' h=>h.v
theorem rgreaterV {x y:Nat} {w:World} {F:Nat -> Prop} {v u:Value} (hx:NumV w F 10 x v) (hy:NumV w F 10 y u) (lx:(dig 10 x).length <= 100000000000) (ly:(dig 10 y).length <= 100000000000) :
 Calls Tryz.prog 104 #[v,u] w fun e w'=>∃ z,e=.returned z /\ NumV w' F 10 (max x y) z /\ Keeps NoBlk w w':=by
 obtain ⟨xa,xc,rfl,h1⟩:=hx;obtain ⟨ya,yc,rfl,h2⟩:=hy
 exact (rgreater_any x y w F xa ya xc yc h1 h2 lx ly).mono fun e w' h=>by
  obtain ⟨ad,cap,he,h3,h4⟩:=h;exact ⟨_,he,⟨ad,cap,rfl,h3⟩,h4⟩
theorem rsmallV (n:Nat) (hn:n < 9000000000000000000) (w:World):Calls Tryz.prog 73 #[.int .i64 n] w fun e w'=>∃ z,e=.returned z /\ NumV w' (Since w.heap.size w') 10 n z /\ Keeps NoBlk w w' :=
 (rsmall_any n hn w).mono fun e w' h=>h.v
def RstOk (l:List Ac):Prop:=∀ (w:World) (F:Nat -> Prop) (ad:Option Addr) (cap:Nat),AcsAt w F l ad -> Ac.szL l < 1000000000 -> Ac.okcL l →
 Calls Tryz.prog 88 #[.slice ad l.length cap] w fun e w'=>∃ z,e=.returned z /\ NumV w' (Since w.heap.size w') 10 (Ac.stpL l) z /\ Keeps NoBlk w w'
set_option maxRecDepth 8000 in
set_option maxHeartbeats 2000000 in
theorem rstOk_of (l:List Ac) (ih:∀ y,y ∈ l -> RstOk y.thn /\ RstOk y.els):RstOk l:=by
 intro w F ad cap h hb ho
 have HL:=Lib.hid h;have IH:=Lib.hid ih;have hl:=Ac.len_le l;have hb2:l.length < 1000000000:=by omega
 have HB:=Lib.hid hb;have HO:=Lib.hid ho;clear h ih hl hb ho;go_enter Tryz.func88,Tryz.ntmps88
 go_wp2_with fail
 go_loopw [3,4] (fun nv iv wr=>∃ i:Nat,i <= l.length /\ iv=.int .i64 i /\ Hid (NumV wr (Since w.heap.size wr) 10 (Ac.stpL (l.take i)) nv) /\ Hid (Keeps NoBlk w wr)) (fun _ iv _=>l.length - (intOf iv).toNat)
 case atStart=>exact ⟨0,Nat.zero_le _,rfl,NumV.zero _ _ _,Keeps.refl _ _⟩
 case round =>
  rename_i nv _
  obtain ⟨i,hi,rfl,HN,HK⟩:=hrel;by_cases hlt:i < l.length
  ·have i1:(0:Int) <= i:=by omega
   have i2:(i:Int) < l.length:=by omega
   obtain ⟨g,o,xa,xc,ta,tc,ea,ec,e1,hg,d0,d1,d2,d3,d4,d5,d6,d7,d8,d9,hx,hxt,hxe⟩:=(HL.out.keeps HK.out (fun _ _ h=>h)).at hlt;subst e1;have hsz:=Ac.sz_mem (List.getElem_mem hlt);rw [Ac.sz_eq] at hsz;have hB:=HB.out;have hok:=Ac.okc_eq (Ac.okcL_mem HO.out (List.getElem_mem hlt));have HTT:Hid (∀ W,Keeps NoBlk wr W -> Calls Tryz.prog 88 #[.slice ta l[i].thn.length tc] W fun e w'=>∃ z,e=.returned z /\ NumV w' (Since W.heap.size w') 10 (Ac.stpL l[i].thn) z /\ Keeps NoBlk W w'):=fun W hk=>(IH.out _ (List.getElem_mem hlt)).1 W F ta tc (hxt.keeps hk (fun _ _ h=>h)) (by omega) hok.2.2.1
   have HEE:Hid (∀ W,Keeps NoBlk wr W -> Calls Tryz.prog 88 #[.slice ea l[i].els.length ec] W fun e w'=>∃ z,e=.returned z /\ NumV w' (Since W.heap.size w') 10 (Ac.stpL l[i].els) z /\ Keeps NoBlk W w'):=fun W hk=>(IH.out _ (List.getElem_mem hlt)).2 W F ea ec (hxe.keeps hk (fun _ _ h=>h)) (by omega) hok.2.2.2
   have HTL:Hid (∀ m,m <= Ac.wrkL l[i].thn+1 -> (dig 10 m).length <= 12000000000):=fun m hm=>Ac.dlen_le (by decide) hok.2.2.1 (by omega) hm
   have HEL:Hid (∀ m,m <= Ac.wrkL l[i].els+1 -> (dig 10 m).length <= 12000000000):=fun m hm=>Ac.dlen_le (by decide) hok.2.2.2 (by omega) hm
   have HLL:Hid (∀ m,m <= Ac.wrkL l+1 -> (dig 10 m).length <= 12000000000):=fun m hm=>Ac.dlen_le (by decide) HO.out HB.out hm
   have HST:Hid (Ac.stpL l[i].thn <= Ac.wrkL l[i].thn /\ Ac.stpL l[i].els <= Ac.wrkL l[i].els /\ Ac.stpL l <= Ac.wrkL l):=⟨Ac.stpL_le _,Ac.stpL_le _,Ac.stpL_le _⟩;have htk:=Ac.stpL_take hlt;have hpt:=Ac.stpL_part l (i+1);rw [htk,Ac.stp_eq] at hpt;rw [Ac.stp_eq] at htk;have HTK:=Lib.hid htk;have HPT:=Lib.hid hpt;have HCN:Hid (∃ n:Nat,l[i].count=(n:Int) /\ n <= 1000):=⟨l[i].count.toNat,by omega,by omega⟩;clear hx hxt hxe hsz hB hok htk hpt;generalize l[i].kind=k at d0 HTK HPT;generalize l[i].count=c at d7 HTK HPT HCN;generalize Ac.wrkL l[i].thn=tw at HTT HTL HST HTK HPT;generalize Ac.wrkL l[i].els=ew at HEE HEL HST HTK HPT;generalize Ac.stpL l[i].thn=ts at HTT HST HTK HPT;generalize Ac.stpL l[i].els=es at HEE HST HTK HPT;generalize l[i].thn.length=x8 at d8 HTT;generalize l[i].els.length=x9 at d9 HEE;rcases (show k=1 \/ k=10 \/ k=11 \/ (¬ k=1 /\ ¬ k=10 /\ ¬ k=11) by omega) with rfl | rfl | rfl | ⟨k1,k10,k11⟩
   ·have HTK2:Hid (Ac.stpL (l.take (i+1))=Ac.stpL (l.take i)):=by show _=_;rw [HTK.out];simp
    clear HTK HPT HTT HEE HCN;go_wp2_with fail
    go_roundw
    case rel=>exact ⟨i+1,by omega,by go_num,by show NumV _ _ _ _ _;rw [HTK2.out];exact HN.out,HK.out⟩
    case measure=>simp [intOf];omega
   ·have HTK2:Hid (Ac.stpL (l.take (i+1))=Ac.stpL (l.take i)+max ts es):=by show _=_;rw [HTK.out];simp
    have HP2:Hid (Ac.stpL (l.take i)+max ts es <= Ac.stpL l):=by show _ <= _;have h:=HPT.out;simpa using h
    clear HTK HPT HCN;go_upto_region 10 with (go_at_call 88;refine (HTT.out _ (Keeps.refl _ _)).mono ?_;rintro e w2 ⟨z2,rfl,n2,g2⟩;have d9':=g2.cell (p:=⟨g,o+i*10+9,none⟩) (fun h=>h) d9;have N2:=Lib.hid n2;have G2:=Lib.hid g2;clear g2 n2)
    go_upto_region 11 with (go_at_call 88;refine (HEE.out _ G2.out).mono ?_;rintro e w3 ⟨z3,rfl,n3,g3⟩;have N3:=Lib.hid n3;have G3:=Lib.hid g3;clear g3 n3 d9')
    go_upto_region 12 with (go_at_call 104;refine (rgreaterV (F:=Since wr.heap.size w3) ((N2.out.keeps0 G3.out).mono (fun k hk=>⟨hk.1,Nat.lt_of_lt_of_le hk.2 G3.out.size⟩)) (N3.out.mono (fun k hk=>⟨Nat.le_trans G2.out.size hk.1,hk.2⟩)) (by have:=HTL.out ts (by have:=HST.out;omega);omega) (by have:=HEL.out es (by have:=HST.out;omega);omega)).mono ?_;rintro e w4 ⟨z4,rfl,n4,g4⟩;have N4:=Lib.hid n4;have G4:Hid (Keeps NoBlk wr w4):=(G2.out.trans0 G3.out).trans0 g4;clear g4 n4)
    go_wp2_with (go_at_call 90;refine (rplusV (F:=fun _=>True) ((HN.out.keeps0 G4.out).mono (fun _ _=>trivial)) (N4.out.mono (fun _ _=>trivial)) (by have:=HLL.out (Ac.stpL (l.take i)) (by have:=HST.out;have:=HP2.out;omega);omega) (by have:=HLL.out (max ts es) (by have:=HST.out;have:=HP2.out;omega);omega)).mono ?_;rintro e w5 ⟨z5,rfl,n5,g5⟩;have N5:=Lib.hid n5;have G5:Hid (Keeps NoBlk wr w5):=G4.out.trans0 g5;clear g5 n5)
    go_roundw
    case rel=>exact ⟨i+1,by omega,by go_num,by show NumV _ _ _ _ _;rw [HTK2.out];exact N5.out.mono (fun k hk=>⟨Nat.le_trans (Nat.le_trans HK.out.size G4.out.size) hk.1,hk.2⟩),HK.out.trans0 G5.out⟩
    case measure=>simp [intOf];omega
   ·obtain ⟨cn,rfl,hcn⟩:=HCN.out
    have HTK2:Hid (Ac.stpL (l.take (i+1))=Ac.stpL (l.take i)+ts*cn):=by show _=_;rw [HTK.out];simp
    have HP2:Hid (Ac.stpL (l.take i)+ts*cn <= Ac.stpL l):=by show _ <= _;have h:=HPT.out;simpa using h
    clear HTK HPT HCN;go_upto_region 15 with (go_at_call 88;refine (HTT.out _ (Keeps.refl _ _)).mono ?_;rintro e w2 ⟨z2,rfl,n2,g2⟩;have d7':=g2.cell (p:=⟨g,o+i*10+7,none⟩) (fun h=>h) d7;have N2:=Lib.hid n2;have G2:=Lib.hid g2;clear g2 n2)
    go_upto_region 16 with (go_at_call 105;refine (rtimesV N2.out (by have:=HTL.out ts (by have:=HST.out;omega);omega) hcn).mono ?_;rintro e w4 ⟨z4,rfl,n4,g4⟩;have N4:=Lib.hid n4;have G4:Hid (Keeps NoBlk wr w4):=G2.out.trans0 g4;clear g4 n4 d7')
    go_wp2_with (go_at_call 90;refine (rplusV (F:=fun _=>True) ((HN.out.keeps0 G4.out).mono (fun _ _=>trivial)) (N4.out.mono (fun _ _=>trivial)) (by have:=HLL.out (Ac.stpL (l.take i)) (by have:=HST.out;have:=HP2.out;omega);omega) (by have:=HLL.out (ts*cn) (by have:=HST.out;have:=HP2.out;omega);omega)).mono ?_;rintro e w5 ⟨z5,rfl,n5,g5⟩;have N5:=Lib.hid n5;have G5:Hid (Keeps NoBlk wr w5):=G4.out.trans0 g5;clear g5 n5)
    go_roundw
    case rel=>exact ⟨i+1,by omega,by go_num,by show NumV _ _ _ _ _;rw [HTK2.out];exact N5.out.mono (fun k hk=>⟨Nat.le_trans (Nat.le_trans HK.out.size G4.out.size) hk.1,hk.2⟩),HK.out.trans0 G5.out⟩
    case measure=>simp [intOf];omega
   ·have HTK2:Hid (Ac.stpL (l.take (i+1))=Ac.stpL (l.take i)+1):=by show _=_;rw [HTK.out];simp [k1,k10,k11]
    have HP2:Hid (Ac.stpL (l.take i)+1 <= Ac.stpL l):=by show _ <= _;have h:=HPT.out;simpa [k1,k10,k11] using h
    have kb1:(k==1)=false:=by simpa using k1
    have kb10:(k==10)=false:=by simpa using k10
    have kb11:(k==11)=false:=by simpa using k11
    clear HTK HPT HCN;go_wp2_with (go_at_call 90;refine (rplusV (F:=fun _=>True) ((HN.out.keeps0 ((Keeps.refl NoBlk wr).alloc _)).mono (fun _ _=>trivial)) (NumV.one (by decide) _ (RowAt.ofBlock (heap_alloc_new wr _)) trivial) (by have:=HLL.out (Ac.stpL (l.take i)) (by have:=HST.out;have:=HP2.out;omega);omega) (by rw [dig_one (by decide)];simp)).mono ?_;rintro e w5 ⟨z5,rfl,n5,g5⟩;have N5:=Lib.hid n5;have G5:Hid (Keeps NoBlk wr w5):=((Keeps.refl NoBlk wr).alloc _).trans0 g5;clear g5 n5)
    go_roundw
    case rel=>exact ⟨i+1,by omega,by go_num,by show NumV _ _ _ _ _;rw [HTK2.out];exact N5.out.mono (fun k hk=>⟨by have:=hk.1;have:=HK.out.size;simp at *;omega,hk.2⟩),HK.out.trans0 G5.out⟩
    case measure=>simp [intOf];omega
  ·obtain rfl:i=l.length:=by omega
   go_wp2_with fail
   go_ret
   have h:=HN.out;rw [List.take_length] at h;first | exact ⟨h,HK.out⟩ | exact ⟨_,rfl,h,HK.out⟩
theorem rstOk (l:List Ac):RstOk l:=by
 have key:∀ x:Ac,RstOk x.thn /\ RstOk x.els:=fun x=>Ac.ind (P:=fun x=>RstOk x.thn /\ RstOk x.els) (fun k r o x c t e h1 h2=>⟨rstOk_of t h1,rstOk_of e h2⟩) x
 exact rstOk_of l (fun y _=>key y)
def RwkOk (l:List Ac):Prop:=∀ (w:World) (F:Nat -> Prop) (ad:Option Addr) (cap:Nat),AcsAt w F l ad -> Ac.szL l < 1000000000 -> Ac.okcL l →
 Calls Tryz.prog 89 #[.slice ad l.length cap] w fun e w'=>∃ z,e=.returned z /\ NumV w' (Since w.heap.size w') 10 (Ac.wrkL l) z /\ Keeps NoBlk w w'
set_option maxRecDepth 8000 in
set_option maxHeartbeats 2000000 in
theorem rwkOk_of (l:List Ac) (ih:∀ y,y ∈ l -> RwkOk y.thn /\ RwkOk y.els):RwkOk l:=by
 intro w F ad cap h hb ho
 have HL:=Lib.hid h;have IH:=Lib.hid ih;have hl:=Ac.len_le l;have hb2:l.length < 1000000000:=by omega
 have HB:=Lib.hid hb;have HO:=Lib.hid ho;clear h ih hl hb ho;go_enter Tryz.func89,Tryz.ntmps89
 go_wp2_with fail
 go_loopw [3,4] (fun nv iv wr=>∃ i:Nat,i <= l.length /\ iv=.int .i64 i /\ Hid (NumV wr (Since w.heap.size wr) 10 (Ac.wrkL (l.take i)) nv) /\ Hid (Keeps NoBlk w wr)) (fun _ iv _=>l.length - (intOf iv).toNat)
 case atStart=>exact ⟨0,Nat.zero_le _,rfl,NumV.zero _ _ _,Keeps.refl _ _⟩
 case round =>
  rename_i nv _
  obtain ⟨i,hi,rfl,HN,HK⟩:=hrel;by_cases hlt:i < l.length
  ·have i1:(0:Int) <= i:=by omega
   have i2:(i:Int) < l.length:=by omega
   obtain ⟨g,o,xa,xc,ta,tc,ea,ec,e1,hg,d0,d1,d2,d3,d4,d5,d6,d7,d8,d9,hx,hxt,hxe⟩:=(HL.out.keeps HK.out (fun _ _ h=>h)).at hlt;subst e1;have hsz:=Ac.sz_mem (List.getElem_mem hlt);rw [Ac.sz_eq] at hsz;have hB:=HB.out;have hok:=Ac.okc_eq (Ac.okcL_mem HO.out (List.getElem_mem hlt));have HTT:Hid (∀ W,Keeps NoBlk wr W -> Calls Tryz.prog 89 #[.slice ta l[i].thn.length tc] W fun e w'=>∃ z,e=.returned z /\ NumV w' (Since W.heap.size w') 10 (Ac.wrkL l[i].thn) z /\ Keeps NoBlk W w'):=fun W hk=>(IH.out _ (List.getElem_mem hlt)).1 W F ta tc (hxt.keeps hk (fun _ _ h=>h)) (by omega) hok.2.2.1
   have HEE:Hid (∀ W,Keeps NoBlk wr W -> Calls Tryz.prog 89 #[.slice ea l[i].els.length ec] W fun e w'=>∃ z,e=.returned z /\ NumV w' (Since W.heap.size w') 10 (Ac.wrkL l[i].els) z /\ Keeps NoBlk W w'):=fun W hk=>(IH.out _ (List.getElem_mem hlt)).2 W F ea ec (hxe.keeps hk (fun _ _ h=>h)) (by omega) hok.2.2.2
   have HTL:Hid (∀ m,m <= Ac.wrkL l[i].thn+1 -> (dig 10 m).length <= 12000000000):=fun m hm=>Ac.dlen_le (by decide) hok.2.2.1 (by omega) hm
   have HEL:Hid (∀ m,m <= Ac.wrkL l[i].els+1 -> (dig 10 m).length <= 12000000000):=fun m hm=>Ac.dlen_le (by decide) hok.2.2.2 (by omega) hm
   have HLL:Hid (∀ m,m <= Ac.wrkL l+1 -> (dig 10 m).length <= 12000000000):=fun m hm=>Ac.dlen_le (by decide) HO.out HB.out hm
   have HST:Hid (Ac.stpL l[i].thn <= Ac.wrkL l[i].thn /\ Ac.stpL l[i].els <= Ac.wrkL l[i].els /\ Ac.stpL l <= Ac.wrkL l):=⟨Ac.stpL_le _,Ac.stpL_le _,Ac.stpL_le _⟩;have htk:=Ac.wrkL_take hlt;have hpt:=Ac.wrkL_part l (i+1);rw [htk,Ac.wrk_eq] at hpt;rw [Ac.wrk_eq] at htk;have HTK:=Lib.hid htk;have HPT:=Lib.hid hpt;have HCN:Hid (∃ n:Nat,l[i].count=(n:Int) /\ n <= 1000):=⟨l[i].count.toNat,by omega,by omega⟩;have HX:Hid (∀ W,Keeps NoBlk wr W -> Calls Tryz.prog 106 #[.agg #[.int .i64 l[i].ex.kind, .int .i64 l[i].ex.num, .string l[i].ex.nm, .slice xa l[i].ex.args.length xc]] W fun e w'=>e=.returned (.int .i64 l[i].ex.cnt) /\ Keeps NoBlk W w'):=fun W hk=>exprCount_any l[i].ex W F xa xc (hx.keeps hk (fun _ _ h=>h)) (by omega)
   have HOW:Hid (l[i].ex.own=1+(if l[i].ex.kind=0 then 0 else l[i].ex.cnt)):=rfl;have hcnt:l[i].ex.cnt < 1000000000:=by omega
   generalize l[i].ex.own=ow at HOW HTK HPT;generalize l[i].ex.cnt=cx at HOW HX hcnt;generalize l[i].ex.kind=x3 at d3 HX HOW;generalize l[i].ex.num=x4 at d4 HX;generalize l[i].ex.nm=x5 at d5 HX;generalize l[i].ex.args.length=x6 at d6 HX;clear hx hxt hxe hsz hB hok htk hpt;generalize l[i].kind=k at d0 HTK HPT;generalize l[i].count=c at d7 HTK HPT HCN;generalize Ac.wrkL l[i].thn=tw at HTT HTL HST HTK HPT;generalize Ac.wrkL l[i].els=ew at HEE HEL HST HTK HPT;generalize Ac.stpL l[i].thn=ts at HTT HST HTK HPT;generalize Ac.stpL l[i].els=es at HEE HST HTK HPT;generalize l[i].thn.length=x8 at d8 HTT;generalize l[i].els.length=x9 at d9 HEE;have HOI:Hid (Ac.wrkL (l.take i)+ow <= Ac.wrkL l):=by have h:=HPT.out;show _ <= _;omega
   rcases (show x3=0 \/ ¬ x3=0 by omega) with hx3 | hx3
   case' inl =>
    have how:ow=1:=by have h:=HOW.out;rw [if_pos hx3] at h;omega
    have HOW1:=Lib.hid how;subst hx3;clear how
    go_upto_region 9 with (first
     | (go_at_call 73;refine (rsmallV 1 (by decide) _).mono ?_;rintro e w2 ⟨z2,rfl,n2,g2⟩;rw [<- HOW1.out] at n2;have N2:=Lib.hid n2;have G2:=Lib.hid g2;clear g2 n2)
     | (go_at_call 90;refine (rplusV (F:=fun _=>True) ((HN.out.keeps0 G2.out).mono (fun _ _=>trivial)) (N2.out.mono (fun _ _=>trivial)) (by have:=HLL.out (Ac.wrkL (l.take i)) (by have:=HOI.out;omega);omega) (by have:=HLL.out ow (by have:=HOI.out;omega);omega)).mono ?_;rintro e w3 ⟨z3,rfl,n3,g3⟩;have N3:=Lib.hid n3;have G3:Hid (Keeps NoBlk wr w3):=G2.out.trans0 g3;clear g3 n3))
   case' inr =>
    have HOW2:Hid (ow=1+cx):=by have h:=HOW.out;rw [if_neg hx3] at h;exact h
    have hxb:(x3==0)=false:=by simpa using hx3
    have hxb2:(x3 != 0)=true:=by simpa using hx3
    have hoi:((1:Int)+(cx:Int))=(ow:Int):=by have:=HOW2.out;omega
    go_upto_region 8 with (go_at_call 106;refine (HX.out _ (Keeps.refl _ _)).mono ?_;rintro e w1 ⟨rfl,g1⟩;have G1:=Lib.hid g1;clear g1)
    go_upto_region 9 with (first
     | (go_at_call 73;refine (rsmallV ow (by have:=HOW2.out;omega) _).mono ?_;rintro e w2 ⟨z2,rfl,n2,g2⟩;have N2:=Lib.hid n2;have G2:Hid (Keeps NoBlk wr w2):=G1.out.trans0 g2;clear g2 n2)
     | (go_at_call 90;refine (rplusV (F:=fun _=>True) ((HN.out.keeps0 G2.out).mono (fun _ _=>trivial)) (N2.out.mono (fun _ _=>trivial)) (by have:=HLL.out (Ac.wrkL (l.take i)) (by have:=HOI.out;omega);omega) (by have:=HLL.out ow (by have:=HOI.out;omega);omega)).mono ?_;rintro e w3 ⟨z3,rfl,n3,g3⟩;have N3:=Lib.hid n3;have G3:Hid (Keeps NoBlk wr w3):=G2.out.trans0 g3;clear g3 n3))
   all_goals (
    have d0':=G3.out.cell (p:=⟨g,o+i*10,none⟩) (fun h=>h) d0;have d7':=G3.out.cell (p:=⟨g,o+i*10+7,none⟩) (fun h=>h) d7;have d8':=G3.out.cell (p:=⟨g,o+i*10+8,none⟩) (fun h=>h) d8;have d9':=G3.out.cell (p:=⟨g,o+i*10+9,none⟩) (fun h=>h) d9;have HS3:Hid (wr.heap.size <= w3.heap.size):=G3.out.size;clear d0 d7 d8 d9;rcases (show k=10 \/ k=11 \/ (¬ k=10 /\ ¬ k=11) by omega) with rfl | rfl | ⟨k10,k11⟩
    ·have HTK2:Hid (Ac.wrkL (l.take (i+1))=Ac.wrkL (l.take i)+ow+max tw ew):=by show _=_;rw [HTK.out];simp [Nat.add_assoc]
     have HP2:Hid (Ac.wrkL (l.take i)+ow+max tw ew <= Ac.wrkL l):=by show _ <= _;have h:=HPT.out;simpa [Nat.add_assoc] using h
     clear HTK HPT HCN;go_upto_region 12 with (go_at_call 89;refine (HTT.out _ G3.out).mono ?_;rintro e w4 ⟨z4,rfl,n4,g4⟩;have d9b:=g4.cell (p:=⟨g,o+i*10+9,none⟩) (fun h=>h) d9';have N4:=Lib.hid n4;have G4:=Lib.hid g4;clear g4 n4)
     go_upto_region 13 with (go_at_call 89;refine (HEE.out _ (G3.out.trans0 G4.out)).mono ?_;rintro e w5 ⟨z5,rfl,n5,g5⟩;have N5:=Lib.hid n5;have G5:=Lib.hid g5;clear g5 n5 d9b)
     go_upto_region 14 with (go_at_call 104;refine (rgreaterV (F:=fun _=>True) ((N4.out.keeps0 G5.out).mono (fun _ _=>trivial)) (N5.out.mono (fun _ _=>trivial)) (by have:=HTL.out tw (by omega);omega) (by have:=HEL.out ew (by omega);omega)).mono ?_;rintro e w6 ⟨z6,rfl,n6,g6⟩;have N6:=Lib.hid n6;have G6:Hid (Keeps NoBlk w3 w6):=(G4.out.trans0 G5.out).trans0 g6;clear g6 n6)
     go_wp2_with (go_at_call 90;refine (rplusV (F:=fun _=>True) ((N3.out.keeps0 G6.out).mono (fun _ _=>trivial)) N6.out (by have:=HLL.out (Ac.wrkL (l.take i)+ow) (by have:=HP2.out;omega);omega) (by have:=HLL.out (max tw ew) (by have:=HP2.out;omega);omega)).mono ?_;rintro e w7 ⟨z7,rfl,n7,g7⟩;have N7:=Lib.hid n7;have G7:Hid (Keeps NoBlk wr w7):=(G3.out.trans0 G6.out).trans0 g7;clear g7 n7)
     go_roundw
     case rel=>exact ⟨i+1,by omega,by go_num,by show NumV _ _ _ _ _;rw [HTK2.out];exact N7.out.mono (fun k hk=>⟨by have:=hk.1;have:=HK.out.size;have:=HS3.out;have:=G6.out.size;omega,hk.2⟩),HK.out.trans0 G7.out⟩
     case measure=>simp [intOf];omega
    ·obtain ⟨cn,rfl,hcn⟩:=HCN.out
     have HTK2:Hid (Ac.wrkL (l.take (i+1))=Ac.wrkL (l.take i)+ow+(tw+1)*cn):=by show _=_;rw [HTK.out];simp [Nat.add_assoc]
     have HP2:Hid (Ac.wrkL (l.take i)+ow+(tw+1)*cn <= Ac.wrkL l):=by show _ <= _;have h:=HPT.out;simpa [Nat.add_assoc] using h
     clear HTK HPT HCN;go_upto_region 17 with (go_at_call 89;refine (HTT.out _ G3.out).mono ?_;rintro e w4 ⟨z4,rfl,n4,g4⟩;have d7b:=g4.cell (p:=⟨g,o+i*10+7,none⟩) (fun h=>h) d7';have N4:=Lib.hid n4;have G4:=Lib.hid g4;clear g4 n4)
     go_upto_region 18 with (go_at_call 90;refine (rplusV (F:=fun _=>True) ((N4.out.keeps0 ((Keeps.refl NoBlk w4).alloc _)).mono (fun _ _=>trivial)) (NumV.one (by decide) _ (RowAt.ofBlock (heap_alloc_new w4 _)) trivial) (by have:=HTL.out tw (by omega);omega) (by rw [dig_one (by decide)];simp)).mono ?_;rintro e w5 ⟨z5,rfl,n5,g5⟩;have d7c:=(((Keeps.refl NoBlk w4).alloc _).trans0 g5).cell (p:=⟨g,o+i*10+7,none⟩) (fun h=>h) d7b;have N5:=Lib.hid n5;have G5:Hid (Keeps NoBlk w3 w5):=G4.out.trans0 (((Keeps.refl NoBlk w4).alloc _).trans0 g5);clear g5 n5)
     go_upto_region 19 with (go_at_call 105;refine (rtimesV N5.out (by have:=HTL.out (tw+1) (by omega);omega) hcn).mono ?_;rintro e w6 ⟨z6,rfl,n6,g6⟩;have N6:=Lib.hid n6;have G6:Hid (Keeps NoBlk w3 w6):=G5.out.trans0 g6;clear g6 n6 d7c)
     go_wp2_with (go_at_call 90;refine (rplusV (F:=fun _=>True) ((N3.out.keeps0 G6.out).mono (fun _ _=>trivial)) (N6.out.mono (fun _ _=>trivial)) (by have:=HLL.out (Ac.wrkL (l.take i)+ow) (by have:=HP2.out;omega);omega) (by have:=HLL.out ((tw+1)*cn) (by have:=HP2.out;omega);omega)).mono ?_;rintro e w7 ⟨z7,rfl,n7,g7⟩;have N7:=Lib.hid n7;have G7:Hid (Keeps NoBlk wr w7):=(G3.out.trans0 G6.out).trans0 g7;clear g7 n7)
     go_roundw
     case rel=>exact ⟨i+1,by omega,by go_num,by show NumV _ _ _ _ _;rw [HTK2.out];exact N7.out.mono (fun k hk=>⟨by have:=hk.1;have:=HK.out.size;have:=HS3.out;have:=G6.out.size;omega,hk.2⟩),HK.out.trans0 G7.out⟩
     case measure=>simp [intOf];omega
    ·have HTK2:Hid (Ac.wrkL (l.take (i+1))=Ac.wrkL (l.take i)+ow):=by show _=_;rw [HTK.out];simp [k10,k11]
     have kb10:(k==10)=false:=by simpa using k10
     have kb11:(k==11)=false:=by simpa using k11
     clear HTK HPT HCN;go_wp2_with fail
     go_roundw
     case rel=>exact ⟨i+1,by omega,by go_num,by show NumV _ _ _ _ _;rw [HTK2.out];exact N3.out.mono (fun k hk=>⟨by have:=hk.1;have:=HK.out.size;have:=G2.out.size;omega,hk.2⟩),HK.out.trans0 G3.out⟩
     case measure=>simp [intOf];omega)
  ·obtain rfl:i=l.length:=by omega
   go_wp2_with fail
   go_ret
   have h:=HN.out;rw [List.take_length] at h;first | exact ⟨h,HK.out⟩ | exact ⟨_,rfl,h,HK.out⟩
theorem rwkOk (l:List Ac):RwkOk l:=by
 have key:∀ x:Ac,RwkOk x.thn /\ RwkOk x.els:=fun x=>Ac.ind (P:=fun x=>RwkOk x.thn /\ RwkOk x.els) (fun k r o x c t e h1 h2=>⟨rwkOk_of t h1,rwkOk_of e h2⟩) x
 exact rwkOk_of l (fun y _=>key y)
end Go.Proofs.YtnmifekgdkgknaaGreatDoor
