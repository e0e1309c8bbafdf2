/- Layer R: texts joined. -/
import Derived.Test.YtnmifekgdkgknaaGreatDoorR04
import Derived.Test.YtnmifekgdkgknaaGreatDoorR05
set_option linter.unusedVariables false
set_option linter.unusedSimpArgs false
set_option linter.unnecessarySimpa false
namespace Go.Proofs.YtnmifekgdkgknaaGreatDoor
open Go.RowKit
mutual
def Ac.plain:Ac -> St
 | .mk k _ _ x _ t e=>.mk k noNm noNm x 0 (Ac.plainL t) (Ac.plainL e)
def Ac.plainL:List Ac -> List St
 | []=>[]
 | x :: r=>Ac.plain x :: Ac.plainL r
end
theorem Ac.plainL_map (l:List Ac):Ac.plainL l=l.map Ac.plain:=by
 induction l with
 | nil=>rfl
 | cons x r ih=>simp [Ac.plainL,ih]
theorem Ac.plain_eq (x:Ac):x.plain=.mk x.kind noNm noNm x.ex 0 (Ac.plainL x.thn) (Ac.plainL x.els):=by
 cases x;simp only [Ac.plain,Ac.kind,Ac.ex,Ac.thn,Ac.els]
theorem Ac.plainL_len (l:List Ac):(Ac.plainL l).length=l.length:=by rw [Ac.plainL_map];simp
def PlainOk (l:List Ac):Prop:=∀ (w:World) (F:Nat -> Prop) (ad:Option Addr) (cap:Nat),AcsAt w F l ad -> (∀ k,F k -> k < w.heap.size) -> Ac.szL l < 1000000000 →
 Calls Tryz.prog 65 #[.slice ad l.length cap] w fun e w'=>∃ ad' cap',e=.returned (.slice ad' l.length cap') /\ StsAt w' (fun k=>F k \/ (w.heap.size <= k /\ k < w'.heap.size)) (Ac.plainL l) ad' /\ Keeps NoBlk w w'
theorem infoStmt:(Tryz.prog.info? 152).map (fun i=>(i.zero,i.size,i.bytes))=some (some (.agg #[.int .i64 0, .string noNm, .string noNm, .int .i64 0, .int .i64 0, .string noNm, .slice none 0 0, .int .i64 0, .slice none 0 0, .slice none 0 0]),10,152):=by kernel_rfl
theorem info_parts {P:Program} {t:TypeId} {z:Value} {s b:Nat} (h:(P.info? t).map (fun i=>(i.zero,i.size,i.bytes))=some (some z,s,b)):∃ i,P.info? t=some i /\ i.zero=some z /\ i.size=s /\ i.bytes=b:=by
 cases hi:P.info? t with
 | none=>rw [hi] at h;cases h
 | some i =>
   rw [hi] at h;simp only [Option.map_some,Option.some.injEq,Prod.mk.injEq] at h;exact ⟨i,rfl,h.1,h.2.1,h.2.2⟩
theorem StsAt.mono {F F':Nat -> Prop} {w:World} {l:List St} {ad:Option Addr} (h:StsAt w F l ad) (hF:∀ k,F k -> F' k):StsAt w F' l ad:=by
 obtain ⟨css,h0,h1⟩:=h;exact ⟨css,h0.mono hF,fun i y e=>(h1 i y e).mono hF⟩
theorem RowAt.src {w:World} {g n c:Nat} {cs:List Value} (h:RowAt w g cs):SrcAt w (.slice (some ⟨g,0,none⟩) n c) n cs:=⟨_,c,rfl,fun _=>⟨g,0,rfl,h.rng⟩⟩
set_option maxRecDepth 8000 in
set_option maxHeartbeats 2000000 in
theorem plainOk_of (l:List Ac) (ih:∀ y,y ∈ l -> PlainOk y.thn /\ PlainOk y.els):PlainOk l:=by
 intro w F ad cap h hF hb
 have HL:=Lib.hid h;have IH:=Lib.hid ih;have HF:=Lib.hid hF;have hl:=Ac.len_le l;have hb2:l.length < 1000000000:=by omega
 have HB:=Lib.hid hb;obtain ⟨j0,hj0,hz0,hz1,hz2⟩:=info_parts infoStmt;obtain ⟨B,hB⟩:∃ B,B=w.heap.size:=⟨_,rfl⟩
 have HBE:=Lib.hid hB;clear h ih hl hb hF hB;go_enter Tryz.func65,Tryz.ntmps65
 go_wp2_with fail
 go_loopw [3,4] (fun ov iv wr=>∃ (i:Nat) (da:Option Addr) (dc:Nat) (css:List (List Value)),i <= l.length /\ iv=.int .i64 i /\ ov=.slice da i dc /\ Hid (Acc StAt F B 10 152 wr (.slice da i dc) (Ac.plainL (l.take i)) css) /\ Hid (Keeps NoBlk w wr)) (fun _ iv _=>l.length - (intOf iv).toNat)
 case atStart=>exact ⟨0,none,0,[],Nat.zero_le _,rfl,rfl,Acc.nil w,Keeps.refl _ _⟩
 case round =>
  obtain ⟨i,da,dc,css,hi,rfl,rfl,HA,HK⟩:=hrel;by_cases hlt:i < l.length
  ·have i1:(0:Int) <= i:=by omega
   have i2:(i:Int) < l.length:=by omega
   have HBR:Hid (B <= wr.heap.size):=by show _ <= _;rw [HBE.out];exact HK.out.size
   obtain ⟨g,o,xa,xc,ta,tc,ea,ec,e1,hg,d0,d1,d2,d3,d4,d5,d6,d7,d8,d9,hx,hxt,hxe⟩:=(HL.out.keeps HK.out (fun _ _ h=>h)).at hlt;subst e1;have hIHi:=IH.out _ (List.getElem_mem hlt);have hszi:l[i].sz < 1000000000:=by have:=Ac.sz_mem (List.getElem_mem hlt);have:=HB.out;omega
   rw [Ac.sz_eq] at hszi;have hlF:∀ k,F k -> k < wr.heap.size:=fun k hk=>Nat.lt_of_lt_of_le (HF.out k hk) HK.out.size
   have HT:Hid (∀ W,Keeps NoBlk wr W -> Calls Tryz.prog 65 #[.slice ta l[i].thn.length tc] W fun e w'=>∃ ad' cap',e=.returned (.slice ad' l[i].thn.length cap') /\ StsAt w' (fun k=>F k \/ (W.heap.size <= k /\ k < w'.heap.size)) (Ac.plainL l[i].thn) ad' /\ Keeps NoBlk W w') :=
    fun W hk=>hIHi.1 W F ta tc (hxt.keeps hk (fun _ _ h=>h)) (fun k hf=>Nat.lt_of_lt_of_le (hlF k hf) hk.size) (by omega)
   have HE:Hid (∀ W,Keeps NoBlk wr W -> Calls Tryz.prog 65 #[.slice ea l[i].els.length ec] W fun e w'=>∃ ad' cap',e=.returned (.slice ad' l[i].els.length cap') /\ StsAt w' (fun k=>F k \/ (W.heap.size <= k /\ k < w'.heap.size)) (Ac.plainL l[i].els) ad' /\ Keeps NoBlk W w') :=
    fun W hk=>hIHi.2 W F ea ec (hxe.keeps hk (fun _ _ h=>h)) (fun k hf=>Nat.lt_of_lt_of_le (hlF k hf) hk.size) (by omega)
   have HX:=Lib.hid hx;obtain ⟨pt,hpt⟩:∃ p,p=Ac.plainL l[i].thn:=⟨_,rfl⟩
   obtain ⟨pe,hpe⟩:∃ p,p=Ac.plainL l[i].els:=⟨_,rfl⟩
   have hlt2:pt.length=l[i].thn.length:=by rw [hpt,Ac.plainL_len]
   have hle2:pe.length=l[i].els.length:=by rw [hpe,Ac.plainL_len]
   obtain ⟨x,hxx⟩:∃ x,x=l[i].ex:=⟨_,rfl⟩
   have HP:Hid (l[i].plain=.mk l[i].kind noNm noNm x 0 pt pe):=by show _=_;rw [Ac.plain_eq,hpt,hpe,hxx]
   rw [<- hpt] at HT;rw [<- hpe] at HE;rw [<- hlt2] at HT d8;rw [<- hle2] at HE d9;rw [<- hxx] at HX d3 d4 d5 d6;clear hIHi hszi hlF hx hxt hxe hpt hpe hlt2 hle2 hxx d1 d2 d7;generalize l[i].kind=x0 at d0 HP;obtain ⟨x3,q3⟩:∃ y,y=x.kind:=⟨_,rfl⟩
   obtain ⟨x4,q4⟩:∃ y,y=x.num:=⟨_,rfl⟩
   obtain ⟨x5,q5⟩:∃ y,y=x.nm:=⟨_,rfl⟩
   obtain ⟨x6,q6⟩:∃ y,y=x.args.length:=⟨_,rfl⟩
   obtain ⟨x8,q8⟩:∃ y,y=pt.length:=⟨_,rfl⟩
   obtain ⟨x9,q9⟩:∃ y,y=pe.length:=⟨_,rfl⟩
   have HQ:Hid (x3=x.kind /\ x4=x.num /\ x5=x.nm /\ x6=x.args.length /\ x8=pt.length /\ x9=pe.length):=⟨q3,q4,q5,q6,q8,q9⟩;rw [<- q3] at d3;rw [<- q4] at d4;rw [<- q5] at d5;rw [<- q6] at d6;rw [<- q8] at d8 HT;rw [<- q9] at d9 HE;clear q3 q4 q5 q6 q8 q9;go_upto_region 6 with (go_at_call 65;refine (HT.out _ (Keeps.refl _ _)).mono ?_;rintro e w2 ⟨ta2,tc2,rfl,s1,g1⟩;have S1:=Lib.hid s1;have G1:=Lib.hid g1;have d9':=g1.cell (p:=⟨g,o+i*10+9,none⟩) (fun h=>h) d9;clear s1 g1)
   go_upto_region 7 with (go_at_call 65;refine (HE.out _ G1.out).mono ?_;rintro e w3 ⟨ea2,ec2,rfl,s2,g2⟩;have S2:=Lib.hid s2;have G2:=Lib.hid g2;clear s2 g2)
   have HG:Hid (Keeps NoBlk wr w3):=G1.out.trans0 G2.out;clear d9';refine wp_region_table 15 (by kernel_rfl) (by kernel_rfl) (Keeps NoBlk) (Keeps.refl NoBlk) (fun a b c h h'=>Keeps.trans0 h h') (TabV [some (.slice da i dc),some (.slice (some ⟨g,o,none⟩) l.length cap),some (.int .i64 i),some (.pointer (some ⟨g,o+i*10,none⟩)),some (.pointer (some ⟨g,o+i*10,none⟩)),some (.int .i64 x0),some (.slice (some ⟨g,o,none⟩) l.length cap),some (.int .i64 i),some (.pointer (some ⟨g,o+i*10,none⟩)),some (.pointer (some ⟨g,o+i*10+3,none⟩)),some (.agg #[.int .i64 x3, .int .i64 x4, .string x5, .slice xa x6 xc]),some (.slice ta2 x8 tc2),some (.slice ea2 x9 ec2),some (.agg #[.int .i64 x0, .string noNm, .string noNm, .int .i64 x3, .int .i64 x4, .string x5, .slice xa x6 xc, .int .i64 0, .slice ta2 x8 tc2, .slice ea2 x9 ec2])] (fun _ v W=>∃ b,v=.slice (some ⟨b,0,none⟩) 1 1 /\ RowAt W b [.int .i64 x0, .string noNm, .string noNm, .int .i64 x3, .int .i64 x4, .string x5, .slice xa x6 xc, .int .i64 0, .slice ta2 x8 tc2, .slice ea2 x9 ec2])) (TabV.st (fun j v W W' h hk=>by obtain ⟨b,e,h1⟩:=h;exact ⟨b,e,h1.keeps hk (fun h=>h)⟩)) ?_ ?_
   ·intro q oo hq ho vs W Q' hR hd hK
    have HR':Keeps NoBlk wr W:=HG.out.trans0 (((Keeps.refl NoBlk w3).drew).trans0 hR);have c0:=HR'.cell (p:=⟨g,o+i*10,none⟩) (fun h=>h) d0;have c3:=HR'.cell (p:=⟨g,o+i*10+3,none⟩) (fun h=>h) d3;have c4:=HR'.cell (p:=⟨g,o+i*10+4,none⟩) (fun h=>h) d4;have c5:=HR'.cell (p:=⟨g,o+i*10+5,none⟩) (fun h=>h) d5;have c6:=HR'.cell (p:=⟨g,o+i*10+6,none⟩) (fun h=>h) d6;clear d0 d3 d4 d5 d6 d8 d9 HR';rcases (show q=0 \/ q=1 \/ q=2 \/ q=3 \/ q=4 \/ q=5 \/ q=6 \/ q=7 \/ q=8 \/ q=9 \/ q=10 \/ q=11 \/ q=12 \/ q=13 \/ q=14 by omega) with rfl | rfl | rfl | rfl | rfl | rfl | rfl | rfl | rfl | rfl | rfl | rfl | rfl | rfl | rfl
    all_goals (simp only [List.getElem?_cons_zero,List.getElem?_cons_succ,Option.some.injEq] at ho;subst ho;simp only [putsTo,List.getElem?_cons_zero,List.getElem?_cons_succ,Option.bind_some,Option.bind,Act.put,List.setIfInBounds_toArray,List.set_cons_zero,List.set_cons_succ] at hK ⊢;clear hq)
    ·clear hd
     go_wp2_with fail
     exact hK _ _ (Keeps.refl _ _) rfl
    ·clear hd
     go_wp2_with fail
     exact hK _ _ (Keeps.refl _ _) rfl
    ·clear hd
     go_wp2_with fail
     exact hK _ _ (Keeps.refl _ _) rfl
    ·have e1:vs 1=_:=hd 1 (by kernel_rfl)
     have e2:vs 2=_:=hd 2 (by kernel_rfl);rw [e1,e2] at hK ⊢;clear hd;go_wp2_with fail
     exact hK _ _ (Keeps.refl _ _) rfl
    ·have e3:vs 3=_:=hd 3 (by kernel_rfl)
     rw [e3] at hK ⊢;clear hd;go_wp2_with fail
     exact hK _ _ (Keeps.refl _ _) rfl
    ·have e4:vs 4=_:=hd 4 (by kernel_rfl)
     rw [e4] at hK ⊢;clear hd;go_wp2_with fail
     exact hK _ _ (Keeps.refl _ _) rfl
    ·clear hd
     go_wp2_with fail
     exact hK _ _ (Keeps.refl _ _) rfl
    ·clear hd
     go_wp2_with fail
     exact hK _ _ (Keeps.refl _ _) rfl
    ·have e6:vs 6=_:=hd 6 (by kernel_rfl)
     have e7:vs 7=_:=hd 7 (by kernel_rfl);rw [e6,e7] at hK ⊢;clear hd;go_wp2_with fail
     exact hK _ _ (Keeps.refl _ _) rfl
    ·have e8:vs 8=_:=hd 8 (by kernel_rfl)
     rw [e8] at hK ⊢;clear hd;go_wp2_with fail
     exact hK _ _ (Keeps.refl _ _) rfl
    ·have e9:vs 9=_:=hd 9 (by kernel_rfl)
     rw [e9] at hK ⊢;clear hd;go_wp2_with fail
     exact hK _ _ (Keeps.refl _ _) rfl
    ·clear hd
     go_wp2_with fail
     exact hK _ _ (Keeps.refl _ _) rfl
    ·clear hd
     go_wp2_with fail
     exact hK _ _ (Keeps.refl _ _) rfl
    ·have e5:vs 5=_:=hd 5 (by kernel_rfl)
     have e10:vs 10=_:=hd 10 (by kernel_rfl);have e11:vs 11=_:=hd 11 (by kernel_rfl);have e12:vs 12=_:=hd 12 (by kernel_rfl);rw [e5,e10,e11,e12] at hK ⊢;clear hd;go_wp2_with fail
     exact hK _ _ (Keeps.refl _ _) rfl
    ·have e13:vs 13=_:=hd 13 (by kernel_rfl)
     rw [e13] at hK ⊢;clear hd;go_wp2_with fail
     exact hK _ _ ((Keeps.refl _ _).alloc _) ⟨_,rfl,RowAt.ofBlock (heap_alloc_new W _)⟩
   ·intro vs W hR hF
    have HR':Keeps NoBlk w3 W:=((Keeps.refl NoBlk w3).drew).trans0 hR;have HKW:Hid (Keeps NoBlk wr W):=HG.out.trans0 HR';have e0:vs 0=_:=hF 0 (by decide);obtain ⟨gs,e14,hgs⟩:=(hF 14 (by decide):∃ b,vs 14=.slice (some ⟨b,0,none⟩) 1 1 /\ RowAt W b [.int .i64 x0, .string noNm, .string noNm, .int .i64 x3, .int .i64 x4, .string x5, .slice xa x6 xc, .int .i64 0, .slice ta2 x8 tc2, .slice ea2 x9 ec2]);have HGS:=Lib.hid hgs;have HRW:=Lib.hid HR';simp only [putsTo,List.getElem?_cons_zero,List.getElem?_cons_succ,Option.bind_some,Option.bind,Act.put,List.setIfInBounds_toArray,List.set_cons_zero,List.set_cons_succ,List.drop_succ_cons,List.drop_zero];rw [e0,e14];clear hF e0 e14;generalize vs 1=y1;generalize vs 2=y2;generalize vs 3=y3;generalize vs 4=y4;generalize vs 5=y5;generalize vs 6=y6;generalize vs 7=y7;generalize vs 8=y8;generalize vs 9=y9;generalize vs 10=y10;generalize vs 11=y11;generalize vs 12=y12;generalize vs 13=y13;clear HR' hR hgs d0 d3 d4 d5 d6 d8 d9;have HAW:Hid (Acc StAt F B 10 152 W (.slice da i dc) (Ac.plainL (l.take i)) css):=HA.out.keeps0 stOk HKW.out;have hlen:(Ac.plainL (l.take i)).length=i:=by rw [Ac.plainL_len,List.length_take];omega
    have HLEN:=Lib.hid hlen;clear hlen;have i3:i+1 <= 1000000000:=by omega
    go_upto_region 4 with (at_builtin;refine wpList_append_src _ (by rfl) _ _ 118 (by rfl) 0 152 j0 _ 10 152 Tryz.underlying118 hj0 hz0 hz1 hz2 rfl (by decide) (.slice da i dc) i css.flatten (by rfl) (by have h1:=HAW.out.2.1;rw [HLEN.out] at h1;exact h1) (.slice (some ⟨gs,0,none⟩) 1 1) 1 [.int .i64 x0, .string noNm, .string noNm, .int .i64 x3, .int .i64 x4, .string x5, .slice xa x6 xc, .int .i64 0, .slice ta2 x8 tc2, .slice ea2 x9 ec2] (by rfl) (RowAt.src HGS.out) rfl (by intro q hq;simp only [List.mem_cons,List.not_mem_nil,or_false] at hq;rcases hq with rfl | rfl | rfl | rfl | rfl | rfl | rfl | rfl | rfl | rfl <;> rfl) (by unfold maxLen;omega) (by omega) (Nat.zero_le _) ?_;intro da2 dc2 w4 ha;have HAO:=Lib.hid ha;clear ha)
    have hown:∀ kb,(Value.slice da i dc).ownBlock=some kb -> kb < wr.heap.size:=fun kb e=>ownsRow_lt HA.out.2.1 e
    have hel:StAt W (NewIn F B W (.slice da i dc)) l[i].plain [.int .i64 x0, .string noNm, .string noNm, .int .i64 x3, .int .i64 x4, .string x5, .slice xa x6 xc, .int .i64 0, .slice ta2 x8 tc2, .slice ea2 x9 ec2]:=by
     have hb:=HBR.out;have k1:=G1.out.size;have k2:=G2.out.size;have k3:=HRW.out.size;have h0:ExsAt W (NewIn F B W (.slice da i dc)) x.args xa:=(HX.out.keeps HKW.out (fun _ _ h=>h)).mono (fun k hk=>.inl hk)
     have h1:StsAt W (NewIn F B W (.slice da i dc)) pt ta2:=(S1.out.keeps (G2.out.trans0 HRW.out) (fun _ _ h=>h)).mono (fun k hk=>by
      rcases hk with hk | ⟨h6,h7⟩
      ·exact .inl hk
      ·exact .inr ⟨by omega,by omega,fun e=>by have:=hown k e;omega⟩)
     have h2:StsAt W (NewIn F B W (.slice da i dc)) pe ea2:=(S2.out.keeps HRW.out (fun _ _ h=>h)).mono (fun k hk=>by
      rcases hk with hk | ⟨h6,h7⟩
      ·exact .inl hk
      ·exact .inr ⟨by omega,by omega,fun e=>by have:=hown k e;omega⟩)
     rw [HP.out];obtain ⟨q3,q4,q5,q6,q8,q9⟩:=HQ.out;rw [q3,q4,q5,q6,q8,q9];exact StAt.ofCells (St.mk x0 noNm noNm x 0 pt pe) h0 h1 h2
    have hBW:B <= W.heap.size:=Nat.le_trans HBR.out HKW.out.size
    have hpush:Acc StAt F B 10 152 w4 (.slice da2 (i+1) dc2) (Ac.plainL (l.take (i+1))) (css++[[.int .i64 x0, .string noNm, .string noNm, .int .i64 x3, .int .i64 x4, .string x5, .slice xa x6 xc, .int .i64 0, .slice ta2 x8 tc2, .slice ea2 x9 ec2]]):=by
     have h1:=HAW.out.push stOk (fun k hk=>by rw [HBE.out];exact HF.out k hk) hBW hel (by decide) (ad:=da2) (cap:=dc2) (w':=w4) (by rw [HLEN.out];exact HAO.out);rw [HLEN.out] at h1;have e:Ac.plainL (l.take (i+1))=Ac.plainL (l.take i)++[l[i].plain]:=by rw [Ac.plainL_map,Ac.plainL_map,take_at hlt,List.map_append];rfl
     rw [e];exact h1
    have HPU:=Lib.hid hpush;have HKE:Hid (Keeps NoBlk w w4):=HAO.out.keeps (HK.out.trans0 HKW.out) (fun k e hk=>by have:=HA.out.2.2.1 k e;have:=HBE.out;omega);clear hpush hel hown hBW;go_wp2_with fail
    go_roundw
    case rel=>exact ⟨i+1,da2,dc2,css++[[.int .i64 x0, .string noNm, .string noNm, .int .i64 x3, .int .i64 x4, .string x5, .slice xa x6 xc, .int .i64 0, .slice ta2 x8 tc2, .slice ea2 x9 ec2]],by omega,by go_num,rfl,HPU,HKE⟩
    case measure=>simp [intOf];omega
  ·obtain rfl:i=l.length:=by omega
   go_wp2_with fail
   go_ret
   have hA:=HA.out;rw [List.take_length] at hA;obtain ⟨h1,h2⟩:=hA.elems stOk (ad:=da) (n:=l.length) (cap:=dc) rfl;rw [<- HBE.out];exact ⟨da,dc,rfl,⟨_,h1,h2⟩,HK.out⟩
theorem plainOk (l:List Ac):PlainOk l:=by
 have key:∀ x:Ac,PlainOk x.thn /\ PlainOk x.els:=fun x=>Ac.ind (P:=fun x=>PlainOk x.thn /\ PlainOk x.els) (fun k r o x c t e h1 h2=>⟨plainOk_of t h1,plainOk_of e h2⟩) x
 exact plainOk_of l (fun y _=>key y)
def acB (f:Fl) (reg regs obj most count:Int) (m z:Bool) (nt ne:Nat):Bool :=
 (if f.reg then decide (0 <= reg)&&decide (reg < regs) else reg==0)&&(if f.name then decide (0 <= obj)&&decide (obj < most) else obj==0)&&(if f.ex then m else z) &&
 (if f.count then decide (0 <= count)&&decide (count <= 1000) else count==0)&&(f.thn || nt==0)&&(f.els || ne==0)
theorem acLeaf_acB (u:Un) (regs k reg obj:Int) (ex:Ex) (count:Int) (nt ne:Nat) :
 acLeaf u regs k reg obj ex count nt ne=(decide (1 <= k)&&decide (k <= 11)&&acB (fields k) reg regs obj (thingsN u k) count (ex.may regs) ex.none nt ne):=by
 unfold acLeaf acB;simp only [Bool.and_assoc]
theorem RowAt.ten {w:World} {g:Nat} {a b c d e f h i j k:Value} (r:RowAt w g [a,b,c,d,e,f,h,i,j,k]) :
 w.cell? ⟨g,0,none⟩=some a /\ w.cell? ⟨g,1,none⟩=some b /\ w.cell? ⟨g,2,none⟩=some c /\ w.cell? ⟨g,3,none⟩=some d /\ w.cell? ⟨g,4,none⟩=some e /\ w.cell? ⟨g,5,none⟩=some f /\ w.cell? ⟨g,6,none⟩=some h ∧
 w.cell? ⟨g,7,none⟩=some i /\ w.cell? ⟨g,8,none⟩=some j /\ w.cell? ⟨g,9,none⟩=some k :=
 ⟨r.cell rfl,r.cell rfl,r.cell rfl,r.cell rfl,r.cell rfl,r.cell rfl,r.cell rfl,r.cell rfl,r.cell rfl,r.cell rfl⟩
theorem RowAt.three {w:World} {g:Nat} {a b c:Value} (r:RowAt w g [a,b,c]):w.cell? ⟨g,0,none⟩=some a /\ w.cell? ⟨g,1,none⟩=some b /\ w.cell? ⟨g,2,none⟩=some c :=
 ⟨r.cell rfl,r.cell rfl,r.cell rfl⟩
theorem RowAt.four {w:World} {g:Nat} {a b c d:Value} (r:RowAt w g [a,b,c,d]):w.cell? ⟨g,0,none⟩=some a /\ w.cell? ⟨g,1,none⟩=some b /\ w.cell? ⟨g,2,none⟩=some c /\ w.cell? ⟨g,3,none⟩=some d :=
 ⟨r.cell rfl,r.cell rfl,r.cell rfl,r.cell rfl⟩
end Go.Proofs.YtnmifekgdkgknaaGreatDoor
