/- Layer R: texts joined. -/
import Derived.Test.YtnmifekgdkgknaaGreatDoorR48
import Derived.Test.YtnmifekgdkgknaaGreatDoorR34
import Derived.Test.YtnmifekgdkgknaaGreatDoorR02
import Derived.Test.YtnmifekgdkgknaaGreatDoorR29
import Derived.Test.YtnmifekgdkgknaaGreatDoorR47
set_option linter.unusedVariables false
set_option linter.unusedSimpArgs false
set_option linter.unnecessarySimpa false
namespace Go.Proofs.YtnmifekgdkgknaaGreatDoor
open Go.RowKit
def putL (w:World) (g:Nat):Nat -> List Value -> World
 | _,[]=>w
 | k,v :: r=>putL (w.setCell ⟨g,k,none⟩ v) g (k+1) r
theorem putL_row {g:Nat}:(vs:List Value) -> (k:Nat) -> (w:World) -> (cs:List Value) -> RowAt w g cs -> k+vs.length=cs.length -> RowAt (putL w g k vs) g (cs.take k++vs)
 | [],k,w,cs,h,e=>by
   have e':cs.take k=cs:=List.take_of_length_le (by simp at e;omega);rw [e',List.append_nil];exact h
 | v :: r,k,w,cs,h,e=>by
   have hk:k < cs.length:=by simp at e;omega
   have:=putL_row r (k+1) (w.setCell ⟨g,k,none⟩ v) (cs.set k v) (h.set k hk v) (by simp at e ⊢;omega)
   have e2:(cs.set k v).take (k+1)++r=cs.take k++v :: r:=by
    rw [List.take_add_one,List.take_set_of_le (Nat.le_refl k)];simp [hk]
   rw [e2] at this;exact this
theorem putL_keeps (g:Nat):(vs:List Value) -> (k:Nat) -> (w:World) -> Keeps (fun q=>q=g) w (putL w g k vs)
 | [],_,w=>Keeps.refl _ _
 | v :: r,k,w=>((Keeps.refl (fun q=>q=g) w).setCell (p:=⟨g,k,none⟩) (fun _=>rfl) v).trans (putL_keeps g r (k+1) _) (fun _ _ h=>h)
theorem putL_new {w w2:World} {g:Nat} {cs:List Value} (vs:List Value) (h:RowAt w2 g cs) (hl:vs.length=cs.length) (hk:Keeps NoBlk w w2) (hg:w.heap.size <= g):RowAt (putL w2 g 0 vs) g vs /\ Keeps NoBlk w (putL w2 g 0 vs) :=
 ⟨by simpa using putL_row vs 0 w2 cs h (by omega),hk.trans (putL_keeps g vs 0 w2) (fun q hq e=>absurd hq (by have e':q=g:=e;omega))⟩
theorem rowFree {w:World} {g:Nat} {cs:List Value} (r:RowAt w g cs):∀ j,j < cs.length -> ∀ W,Keeps NoBlk w W -> W.frozen? ⟨g,j,none⟩=false:=fun j hj=>frozenAll (r.free (k:=j) hj) ⟨_,r.cell (List.getElem?_eq_getElem hj)⟩
abbrev zeroA:Value:=.agg #[.int .i64 0, .int .i64 0, .int .i64 0, .int .i64 0, .int .i64 0, .string { data:=#[] }, .slice none 0 0, .int .i64 0, .slice none 0 0, .slice none 0 0]
set_option maxRecDepth 8000 in
set_option maxHeartbeats 4000000 in
theorem rnext_nil {w:World} {g i cap:Nat} {ad:Option Addr} (c2:∀ W,Keeps NoBlk w W -> W.cell? ⟨g,i*3+2,none⟩=some (.slice ad 0 cap)) :
 Calls Tryz.prog 50 #[.pointer (some ⟨g,i*3,none⟩)] w fun e w'=>e=.returned (.tuple #[zeroA, .bool false]) /\ Keeps NoBlk w w':=by
 obtain ⟨b4,w4,e3,e4,R4,K4,_⟩:=newRow w [.int .i64 0, .int .i64 0, .int .i64 0, .int .i64 0, .int .i64 0, .string { data:=#[] }, .slice none 0 0, .int .i64 0, .slice none 0 0, .slice none 0 0] 75;have fr:=rowFree R4;have HR4:=Lib.hid R4;have HB4:Hid (w.heap.size <= b4 /\ Keeps NoBlk w w4):=⟨by rw [e3];exact Nat.le_refl _,K4⟩;replace c2:=fun W (q:Keeps NoBlk w4 W)=>c2 W (K4.trans0 q)
 have y:=R4.all10;have k4:=keep0 w4;have f0:=fr 0 (by decide);have f1:=fr 1 (by decide);have f2:=fr 2 (by decide);have f3:=fr 3 (by decide);have f4:=fr 4 (by decide);have f5:=fr 5 (by decide);have f6:=fr 6 (by decide);have f7:=fr 7 (by decide);have f8:=fr 8 (by decide);have f9:=fr 9 (by decide);clear fr R4 K4;go_enter Tryz.func50,Tryz.ntmps50
 go_upto_region 1 with fail
 try rw [e3]
 try rw [e4]
 clear e3 e4;go_wp2_with fail
 obtain ⟨R5,K5⟩:=putL_new (w:=w) [.int .i64 0, .int .i64 0, .int .i64 0, .int .i64 0, .int .i64 0, .string { data:=#[] }, .slice none 0 0, .int .i64 0, .slice none 0 0, .slice none 0 0] HR4.out rfl HB4.out.2 HB4.out.1;simp only [putL,Nat.zero_add,Nat.reduceAdd] at R5 K5;refine bodyPost_ret (v:=.tuple #[.agg #[.int .i64 0, .int .i64 0, .int .i64 0, .int .i64 0, .int .i64 0, .string { data:=#[] }, .slice none 0 0, .int .i64 0, .slice none 0 0, .slice none 0 0], .bool false]) (by simp [results,Tryz.results50,go_sem,R5.cell (k:=0) rfl,R5.cell (k:=1) rfl,R5.cell (k:=2) rfl,R5.cell (k:=3) rfl,R5.cell (k:=4) rfl,R5.cell (k:=5) rfl,R5.cell (k:=6) rfl,R5.cell (k:=7) rfl,R5.cell (k:=8) rfl,R5.cell (k:=9) rfl]) rfl ⟨rfl,K5⟩
set_option maxRecDepth 8000 in
set_option maxHeartbeats 8000000 in
theorem rnext_at {w:World} {g i m cap gp ga oa na ac at_ left:Nat} {a:Ac} {xa ta ea:Option Addr} {xc tc ec:Nat} (hm:m < 1000000) (hat:at_ < na)
 (c2:∀ W,Keeps NoBlk w W -> W.cell? ⟨g,i*3+2,none⟩=some (.slice (some ⟨gp,0,none⟩) (m+1) cap))
 (p:∀ W,Keeps NoBlk w W -> W.cell? ⟨gp,m*3,none⟩=some (.slice (some ⟨ga,oa,none⟩) na ac) /\ W.cell? ⟨gp,m*3+1,none⟩=some (.int .i64 at_) /\ W.cell? ⟨gp,m*3+2,none⟩=some (.int .i64 left))
 (d:∀ W,Keeps NoBlk w W -> AcCells W ga (oa+at_*10) a xa xc ta tc ea ec) :
 Calls Tryz.prog 50 #[.pointer (some ⟨g,i*3,none⟩)] w fun e w'=>e=.returned (.tuple #[.agg #[.int .i64 a.kind, .int .i64 a.reg, .int .i64 a.obj, .int .i64 a.ex.kind, .int .i64 a.ex.num, .string a.ex.nm, .slice xa a.ex.args.length xc, .int .i64 a.count, .slice ta a.thn.length tc, .slice ea a.els.length ec], .bool true]) /\ Keeps NoBlk w w':=by
 unfold AcCells at d;have e1:IntKind.i64.wrap (((m+1:Nat):Int) - 1)=(m:Int):=by rw [show ((m+1:Nat):Int) - 1=(m:Int) by omega];exact wrap_small _ (by omega) (by omega)
 have i1:(0:Int) <= m:=by omega
 have i2:(m:Int) < ((m+1:Nat):Int):=by omega
 have i3:¬ ((m+1:Nat):Int)=0:=by omega
 have i4:(((m+1:Nat):Int)==0)=false:=beq_false_of_ne i3;have i5:(0:Int) <= at_:=by omega
 have i6:(at_:Int) < na:=by omega
 obtain ⟨b4,w4,e3,e4,R4,K4,_⟩:=newRow w [.int .i64 0, .int .i64 0, .int .i64 0, .int .i64 0, .int .i64 0, .string { data:=#[] }, .slice none 0 0, .int .i64 0, .slice none 0 0, .slice none 0 0] 75;have fr:=rowFree R4;have HR4:=Lib.hid R4;have HB4:Hid (w.heap.size <= b4 /\ Keeps NoBlk w w4):=⟨by rw [e3];exact Nat.le_refl _,K4⟩;replace c2:=fun W (q:Keeps NoBlk w4 W)=>c2 W (K4.trans0 q)
 replace p:=fun W (q:Keeps NoBlk w4 W)=>p W (K4.trans0 q)
 replace d:=fun W (q:Keeps NoBlk w4 W)=>d W (K4.trans0 q)
 have y:=R4.all10;have k4:=keep0 w4;have f0:=fr 0 (by decide);have f1:=fr 1 (by decide);have f2:=fr 2 (by decide);have f3:=fr 3 (by decide);have f4:=fr 4 (by decide);have f5:=fr 5 (by decide);have f6:=fr 6 (by decide);have f7:=fr 7 (by decide);have f8:=fr 8 (by decide);have f9:=fr 9 (by decide);clear fr R4 K4;go_enter Tryz.func50,Tryz.ntmps50
 go_upto_region 1 with fail
 try rw [e3]
 try rw [e4]
 clear e3 e4;go_upto_region 3 with fail
 refine wp_region_table 13 (by kernel_rfl) (by kernel_rfl) (Keeps NoBlk) (Keeps.refl NoBlk) (fun a b c h h'=>Keeps.trans0 h h') (TabV [some (.pointer (some ⟨g,i*3,none⟩)),some (.pointer (some ⟨g,i*3,none⟩)),some (.pointer (some ⟨g,i*3+2,none⟩)),some (.slice (some ⟨gp,0,none⟩) (m+1) cap),some (.pointer (some ⟨g,i*3,none⟩)),some (.pointer (some ⟨g,i*3,none⟩)),some (.pointer (some ⟨g,i*3+2,none⟩)),some (.slice (some ⟨gp,0,none⟩) (m+1) cap),some (.int .i64 ((m+1:Nat):Int)),some (.int .i64 (m:Int)),some (.pointer (some ⟨gp,m*3,none⟩)),some (.agg #[.slice (some ⟨ga,oa,none⟩) na ac, .int .i64 at_, .int .i64 left]),none] (fun _ v W=>∃ b8,v=.pointer (some ⟨b8,0,none⟩) /\ RowAt W b8 [.slice none 0 0, .int .i64 0, .int .i64 0] /\ w4.heap.size <= b8)) (TabV.st (fun _ _ _ _ h hk=>by obtain ⟨b8,e,h1,h2⟩:=h;exact ⟨b8,e,h1.keeps hk (fun h=>h),h2⟩)) ?_ ?_
 ·intro q oo hq ho vs W Q' hR hd hK
  have HRW:Keeps NoBlk w4 W:=((keep0 w4).drew).trans0 hR;rcases (show q=0 \/ q=1 \/ q=2 \/ q=3 \/ q=4 \/ q=5 \/ q=6 \/ q=7 \/ q=8 \/ q=9 \/ q=10 \/ q=11 \/ q=12 by omega) with rfl | rfl | rfl | rfl | rfl | rfl | rfl | rfl | rfl | rfl | rfl | rfl | rfl
  all_goals (simp only [List.getElem?_cons_zero,List.getElem?_cons_succ,Option.some.injEq] at ho;subst ho;simp only [putsTo,List.getElem?_cons_zero,List.getElem?_cons_succ,Option.bind_some,Option.bind,Act.put,List.setIfInBounds_toArray,List.set_cons_zero,List.set_cons_succ] at hK ⊢;clear hq)
  all_goals try ((try (have e:vs 0=_:=hd 0 (by decide +kernel);rw [e] at hK ⊢;clear e));(try (have e:vs 1=_:=hd 1 (by decide +kernel);rw [e] at hK ⊢;clear e));(try (have e:vs 2=_:=hd 2 (by decide +kernel);rw [e] at hK ⊢;clear e));(try (have e:vs 3=_:=hd 3 (by decide +kernel);rw [e] at hK ⊢;clear e));(try (have e:vs 4=_:=hd 4 (by decide +kernel);rw [e] at hK ⊢;clear e));(try (have e:vs 5=_:=hd 5 (by decide +kernel);rw [e] at hK ⊢;clear e));(try (have e:vs 6=_:=hd 6 (by decide +kernel);rw [e] at hK ⊢;clear e));(try (have e:vs 7=_:=hd 7 (by decide +kernel);rw [e] at hK ⊢;clear e));(try (have e:vs 8=_:=hd 8 (by decide +kernel);rw [e] at hK ⊢;clear e));(try (have e:vs 9=_:=hd 9 (by decide +kernel);rw [e] at hK ⊢;clear e));(try (have e:vs 10=_:=hd 10 (by decide +kernel);rw [e] at hK ⊢;clear e));(try (have e:vs 11=_:=hd 11 (by decide +kernel);rw [e] at hK ⊢;clear e));clear hd;go_wp2_with (fail);first | exact hK _ _ (Keeps.refl _ _) rfl)
  ·clear hd
   go_wp2_with fail
   exact hK _ _ ((Keeps.refl _ _).alloc _) ⟨_,rfl,RowAt.ofBlock (heap_alloc_new W _),HRW.size⟩
 ·intro vs W hR hFF
  have HRW:Keeps NoBlk w4 W:=((keep0 w4).drew).trans0 hR;have e11:vs 11=_:=hFF 11 (by decide);obtain ⟨b8,e12,R8,l8⟩:=(hFF 12 (by decide):∃ b8,vs 12=.pointer (some ⟨b8,0,none⟩) /\ RowAt W b8 [.slice none 0 0, .int .i64 0, .int .i64 0] /\ w4.heap.size <= b8);simp only [putsTo,List.getElem?_cons_zero,List.getElem?_cons_succ,Option.bind_some,Option.bind,Act.put,List.setIfInBounds_toArray,List.set_cons_zero,List.set_cons_succ,List.drop_succ_cons,List.drop_zero];rw [e11,e12];have c8:=R8.all3;have g0:=rowFree R8 0 (by decide);have g1:=rowFree R8 1 (by decide);have g2:=rowFree R8 2 (by decide);have kWW:=keep0 W;clear hFF e11 e12 hR c2;go_upto_region 4 with fail
  obtain ⟨R9,K9⟩:=putL_new (w:=w4) [.slice (some ⟨ga,oa,none⟩) na ac, .int .i64 at_, .int .i64 left] R8 rfl HRW l8;simp only [putL,Nat.zero_add,Nat.reduceAdd] at R9 K9;generalize ((W.setCell ⟨b8,0,none⟩ (.slice (some ⟨ga,oa,none⟩) na ac)).setCell ⟨b8,1,none⟩ (.int .i64 at_)).setCell ⟨b8,2,none⟩ (.int .i64 left)=w6 at R9 K9 ⊢;clear c8 g0 g1 g2 kWW R8;have c9:=R9.all3;have k6:=keep0 w6;replace f0:=fun W (q:Keeps NoBlk w6 W)=>f0 W (K9.trans0 q)
  replace f1:=fun W (q:Keeps NoBlk w6 W)=>f1 W (K9.trans0 q)
  replace f2:=fun W (q:Keeps NoBlk w6 W)=>f2 W (K9.trans0 q)
  replace f3:=fun W (q:Keeps NoBlk w6 W)=>f3 W (K9.trans0 q)
  replace f4:=fun W (q:Keeps NoBlk w6 W)=>f4 W (K9.trans0 q)
  replace f5:=fun W (q:Keeps NoBlk w6 W)=>f5 W (K9.trans0 q)
  replace f6:=fun W (q:Keeps NoBlk w6 W)=>f6 W (K9.trans0 q)
  replace f7:=fun W (q:Keeps NoBlk w6 W)=>f7 W (K9.trans0 q)
  replace f8:=fun W (q:Keeps NoBlk w6 W)=>f8 W (K9.trans0 q)
  replace f9:=fun W (q:Keeps NoBlk w6 W)=>f9 W (K9.trans0 q)
  replace d:=fun W (q:Keeps NoBlk w6 W)=>d W (K9.trans0 q)
  replace y:=fun W (q:Keeps NoBlk w6 W)=>y W (K9.trans0 q)
  have HR6:=Lib.hid (HR4.out.keeps K9 (fun h=>h));have HB6:Hid (w.heap.size <= b4 /\ Keeps NoBlk w w6):=⟨HB4.out.1,HB4.out.2.trans0 K9⟩;clear K9 R9 HRW k4 p l8;go_wp2_with fail
  obtain ⟨R5,K5⟩:=putL_new (w:=w) [.int .i64 a.kind, .int .i64 a.reg, .int .i64 a.obj, .int .i64 a.ex.kind, .int .i64 a.ex.num, .string a.ex.nm, .slice xa a.ex.args.length xc, .int .i64 a.count, .slice ta a.thn.length tc, .slice ea a.els.length ec] HR6.out rfl HB6.out.2 HB6.out.1;simp only [putL,Nat.zero_add,Nat.reduceAdd] at R5 K5;refine bodyPost_ret (v:=.tuple #[.agg #[.int .i64 a.kind, .int .i64 a.reg, .int .i64 a.obj, .int .i64 a.ex.kind, .int .i64 a.ex.num, .string a.ex.nm, .slice xa a.ex.args.length xc, .int .i64 a.count, .slice ta a.thn.length tc, .slice ea a.els.length ec], .bool true]) (by simp [results,Tryz.results50,go_sem,R5.cell (k:=0) rfl,R5.cell (k:=1) rfl,R5.cell (k:=2) rfl,R5.cell (k:=3) rfl,R5.cell (k:=4) rfl,R5.cell (k:=5) rfl,R5.cell (k:=6) rfl,R5.cell (k:=7) rfl,R5.cell (k:=8) rfl,R5.cell (k:=9) rfl]) rfl ⟨rfl,K5⟩
section
variable {w:World} {T:WTags} {F:Nat -> Prop} {id b i:Nat} {u:Un} {p:MPar} {m:WMa} {H:List HTh}
theorem RM.nx (h:RM w T F id b u p m H) (hm:m.ok u) (hi:i < m.ths.length) (h2:(m.get i).st=2) :
 ((m.get i).next=none /\ (m.get i).fs=[] /\ Ret w 50 #[.pointer (some ⟨p.gt,i*3,none⟩)] (.tuple #[zeroA, .bool false])) \/ ∃ a f r xa xc ta tc ea ec bd,(m.get i).next=some a /\ (m.get i).fs.getLast?=some f /\ f.rest=a :: r /\ u.threads[i]?=some bd /\ Ac.may u bd.regs a=true /\ (m.get i).regs.length=bd.regs.toNat /\ 2 <= a.kind /\ a.kind <= 9 /\ ExsAt w F a.ex.args xa /\ Ret w 50 #[.pointer (some ⟨p.gt,i*3,none⟩)] (.tuple #[.agg #[.int .i64 a.kind, .int .i64 a.reg, .int .i64 a.obj, .int .i64 a.ex.kind, .int .i64 a.ex.num, .string a.ex.nm, .slice xa a.ex.args.length xc, .int .i64 a.count, .slice ta a.thn.length tc, .slice ea a.els.length ec], .bool true]):=by
 obtain ⟨bd,hbd,hok,_⟩:=hm.th hi;have hfo:=hok.2.1 (by rw [h2];decide);rcases next_step (hok.2.2 h2) hfo.2 with ⟨h3,h4⟩ | ⟨a,f,r,h3,h4,h5,h6,h7⟩
 ·refine .inl ⟨h3,h4,?_⟩
  obtain ⟨rv,fv,hH,_,hfs⟩:=h.ths.get (WMa.get_some hi);rw [h4] at hfs;obtain ⟨css,_,_,_,⟨ad,cap,rfl⟩,_⟩:=hfs;have c:=(th_three h.ths.row hH).2.2;exact fun W hk=>rnext_nil (cellAll (hk.cell (fun h=>h) c))
 ·have hsp:=last_split h4
  obtain ⟨rv,gp,cap,css,cs,hL⟩:=ThsG.lastX frameOk h.ths (WMa.get_some hi) hsp;have hfo2:=hfo.2;rw [hsp] at hfo2;obtain ⟨ad,ac,at_,rfl,hacs,hrest,hle,hcn⟩:=hL.pl.at
  have hlt:at_ < f.all.length:=by
   have:=congrArg List.length hrest
   rw [h5,List.length_cons,List.length_drop] at this;omega
  have ha:f.all[at_]=a:=by
   have e:f.all.drop at_=a :: r:=hrest.symm.trans h5;rw [List.drop_eq_getElem_cons hlt] at e;exact (List.cons.inj e).1
  obtain ⟨ga,oa,xa,xc,ta,tc,ea,ec,rfl,hga,d,hx,ht,he⟩:=hacs.cells hlt;rw [ha] at d hx;refine .inr ⟨a,f,r,xa,xc,ta,tc,ea,ec,bd,h3,h4,h5,hbd,h6,hfo.1,h7.1,h7.2,hx,?_⟩
  have p0:=hL.cell 0 rfl;rw [Nat.add_zero] at p0;have p1:=hL.cell 1 rfl;have p2:=hL.cell 2 rfl;have c2:=hL.fv;exact fun W hk=>rnext_at hfo2.split.2 hlt (fun W' q=>(hk.trans0 q).cell (fun h=>h) c2) (fun W' q=>⟨(hk.trans0 q).cell (fun h=>h) p0,(hk.trans0 q).cell (fun h=>h) p1,(hk.trans0 q).cell (fun h=>h) p2⟩) (fun W' q=>d W' (hk.trans0 q))
end
section
variable {w:World} {T:WTags} {F:Nat -> Prop} {id b i:Nat} {u:Un} {p:MPar} {m:WMa} {H:List HTh}
end
section
variable {w:World} {T:WTags} {F:Nat -> Prop} {id b:Nat} {u:Un} {p:MPar} {m:WMa} {H:List HTh}
end
structure Part where
 ty:TypeId
 sz:Nat
 ad:Option Addr
 n:Nat
 cap:Nat
 cs:List Value
def Part.v (p:Part):Value:=.slice p.ad p.n p.cap
def part0 (ty:TypeId) (sz:Nat):Part:=⟨ty,sz,none,0,0,[]⟩
structure Parts (w wr:World) (b:Nat) (pre:List Value) (ps:List Part):Prop where
 row:RowAt wr b (pre++ps.map Part.v)
 own:∀ (k:Nat) (p:Part),ps[k]?=some p -> wr.ownsRow 0 p.ty p.sz p.v p.n p.cs
 new:∀ (k:Nat) (p:Part) (g:Nat),ps[k]?=some p -> p.v.ownBlock=some g -> w.heap.size <= g /\ g ≠ b
 sep:∀ (j k:Nat) (p q:Part) (g:Nat),j ≠ k -> ps[j]?=some p -> ps[k]?=some q -> p.v.ownBlock=some g -> q.v.ownBlock ≠ some g
 bn:w.heap.size <= b
 keep:Keeps NoBlk w wr
section
variable {w wr W:World} {b:Nat} {pre:List Value} {ps:List Part}
theorem Parts.keeps (h:Parts w wr b pre ps) (hk:Keeps NoBlk wr W):Parts w W b pre ps :=
 ⟨h.row.keeps hk (fun h=>h),fun k p e=>ownsRow_keeps (h.own k p e) hk (fun _ _ h=>h),h.new,h.sep,h.bn,h.keep.trans0 hk⟩
theorem Parts.start (l:List (TypeId × Nat)) (hr:RowAt wr b (pre++(l.map fun x=>part0 x.1 x.2).map Part.v)) (hb:w.heap.size <= b) (hk:Keeps NoBlk w wr):Parts w wr b pre (l.map fun x=>part0 x.1 x.2):=by
 have hn:∀ (k:Nat) (p:Part),(l.map fun x=>part0 x.1 x.2)[k]?=some p -> ∃ ty sz,p=part0 ty sz:=fun k p e=>by
  rw [List.getElem?_map] at e;obtain ⟨x,_,rfl⟩:=Option.map_eq_some_iff.1 e;exact ⟨_,_,rfl⟩
 refine ⟨hr,fun k p e=>?_,fun k p g e h=>?_,fun j k p q g _ e _ h=>?_,hb,hk⟩
 ·obtain ⟨ty,sz,rfl⟩:=hn k p e
  exact World.ownsRow_nil _ _ _ _
 ·obtain ⟨ty,sz,rfl⟩:=hn k p e
  simp [part0,Part.v,Value.ownBlock] at h
 ·obtain ⟨ty,sz,rfl⟩:=hn j p e
  simp [part0,Part.v,Value.ownBlock] at h
theorem Parts.step {k:Nat} {p:Part} {n' cap':Nat} {ad':Option Addr} {xs:List Value} {w2:World} (h:Parts w wr b pre ps) (hp:ps[k]?=some p) (ha:AppOut wr 0 p.ty p.sz p.v n' xs ad' cap' w2) :
 Keeps NoBlk w w2 /\ RowAt w2 b (pre++ps.map Part.v) /\ Parts w (w2.setCell ⟨b,pre.length+k,none⟩ (.slice ad' n' cap')) b pre (ps.set k ⟨p.ty,p.sz,ad',n',cap',xs⟩):=by
 have hlt:=(List.getElem?_eq_some_iff.1 hp).1
 have hbl:b < wr.heap.size:=by
  refine h.row.lt (fun e=>?_)
  have:=congrArg List.length e
  rw [List.length_append,List.length_map,List.length_nil] at this;omega
 have k2:Keeps (fun q=>p.v.ownBlock=some q) wr w2:=ha.keeps (Keeps.refl _ _) (fun q e _=>e);have k0:Keeps NoBlk w w2:=ha.keeps h.keep (fun q e hq=>absurd hq (by have:=(h.new k p q hp e).1;omega));have r2:=h.row.keeps k2 (fun e=>(h.new k p b hp e).2 rfl);have hs:=h.keep.size;obtain ⟨w3,e3⟩:∃ z,z=w2.setCell ⟨b,pre.length+k,none⟩ (.slice ad' n' cap'):=⟨_,rfl⟩
 have k3:Keeps (fun q=>q=b) w2 w3:=by rw [e3];exact (Keeps.refl (fun q=>q=b) w2).setCell (p:=⟨b,pre.length+k,none⟩) (fun _=>rfl) _
 have r3:=r2.set (pre.length+k) (by simp;omega) (.slice ad' n' cap')
 have er:(pre++ps.map Part.v).set (pre.length+k) (.slice ad' n' cap')=pre++(ps.set k ⟨p.ty,p.sz,ad',n',cap',xs⟩).map Part.v:=by
  rw [List.set_append_right _ _ (by omega),Nat.add_sub_cancel_left,List.map_set];rfl
 have hb':∀ g,(Value.slice ad' n' cap').ownBlock=some g -> p.v.ownBlock=some g \/ g=wr.heap.size:=ha.2.2
 rw [<- e3] at r3 ⊢;rw [er] at r3;refine ⟨k0,r2,r3,fun j q e=>?_,fun j q g e hg=>?_,fun i j q1 q2 g hij e1 e2 g1 g2=>?_,h.bn,(k0.trans k3 (fun q hq e=>absurd hq (by have e':q=b:=e;have:=h.bn;omega)))⟩
 ·by_cases hj:k=j
  ·subst hj
   rw [List.getElem?_set_self hlt] at e;cases e
   exact ownsRow_keeps ha.1 k3 (fun q e1 e2=>by
    have e2:q=b:=e2;rcases hb' q e1 with h1 | h1
    ·exact (h.new k p q hp h1).2 e2
    ·omega)
  ·rw [List.getElem?_set_ne hj] at e
   exact ownsRow_keeps (ownsRow_keeps (h.own j q e) k2 (fun g e1 e2=>h.sep k j p q g hj hp e e2 e1)) k3 (fun g e1 e2=>(h.new j q g e e1).2 e2)
 ·by_cases hj:k=j
  ·subst hj
   rw [List.getElem?_set_self hlt] at e;cases e;rcases hb' g hg with h1 | h1
   ·exact h.new k p g hp h1
   ·exact ⟨by omega,by omega⟩
  ·rw [List.getElem?_set_ne hj] at e
   exact h.new j q g e hg
 ·by_cases h1:k=i
  ·subst h1
   rw [List.getElem?_set_self hlt] at e1;rw [List.getElem?_set_ne hij] at e2;cases e1;rcases hb' g g1 with h3 | h3
   ·exact h.sep k j p q2 g hij hp e2 h3 g2
   ·have:=ownsRow_lt (h.own j q2 e2) g2;omega
  ·rw [List.getElem?_set_ne h1] at e1
   by_cases h2:k=j
   ·subst h2
    rw [List.getElem?_set_self hlt] at e2;cases e2;rcases hb' g g2 with h3 | h3
    ·exact h.sep i k q1 p g hij e1 hp g1 h3
    ·have:=ownsRow_lt (h.own i q1 e1) g1;omega
   ·rw [List.getElem?_set_ne h2] at e2
    exact h.sep i j q1 q2 g hij e1 e2 g1 g2
end
def RStaEnd (w:World) (m:WMa) (e:Ending) (w':World):Prop :=
 ∃ a1 q1 a2 q2 a3 q3 a4 q4,e=.returned (.agg #[.slice a1 m.cells.length q1, .slice a2 m.owners.length q2, .slice a3 m.ths.length q3, .slice a4 m.ths.length q4]) /\ StaOut w m (.slice a1 m.cells.length q1) (.slice a2 m.owners.length q2) (.slice a3 m.ths.length q3) (.slice a4 m.ths.length q4) w'
section
variable {w:World} {T:WTags} {F:Nat -> Prop} {id b:Nat} {u:Un} {p:MPar} {m:WMa} {H:List HTh}
end
def HasR (w:World) (B C:Nat) (v:Value) (n size:Nat):Prop :=
 ∃ ad cap,v=.slice ad n cap /\ (n ≠ 0 -> ∃ g,ad=some ⟨g,0,none⟩ /\ B <= g /\ g < C /\ w.there g 0 (n*size))
theorem HasR.of {w:World} {B C n size:Nat} {v:Value} {cs:List Value} (h:FRow w B v n cs) (hl:cs.length=n*size) (hs:0 < size) (hC:w.heap.size <= C):HasR w B C v n size:=by
 obtain ⟨ad,cap,e,_,_,h1⟩:=h;refine ⟨ad,cap,e,fun hn=>?_⟩
 obtain ⟨g,h2,h3,h4⟩:=h1 hn;refine ⟨g,h2,h3,Nat.lt_of_lt_of_le (h4.lt (fun e=>?_)) hC,by rw [<- hl];exact h4.thr⟩
 rw [e] at hl;simp at hl
 have:n*size ≠ 0:=Nat.mul_ne_zero hn (by omega)
 omega
theorem HasR.set {w:World} {B C n size:Nat} {v:Value} (h:HasR w B C v n size) (p:Addr) (u:Value):HasR (w.setCell p u) B C v n size:=by
 obtain ⟨ad,cap,e,h1⟩:=h;refine ⟨ad,cap,e,fun hn=>?_⟩
 obtain ⟨g,h2,h3,h4,h5⟩:=h1 hn;refine ⟨g,h2,h3,h4,fun j hj=>?_⟩
 obtain ⟨a,b⟩:=h5 j hj;refine ⟨?_,by rw [World.frozen?_setCell];exact b⟩
 by_cases e:p=⟨g,0+j,none⟩
 ·subst e
  rw [World.cell?_setCell_same' _ _ _ a];rfl
 ·rw [World.cell?_setCell_other _ _ _ _ e];exact a
theorem HasR.keeps0 {w w':World} {B C n size:Nat} {v:Value} (h:HasR w B C v n size) (hk:Keeps NoBlk w w'):HasR w' B C v n size:=by
 obtain ⟨ad,cap,e,h1⟩:=h;refine ⟨ad,cap,e,fun hn=>?_⟩
 obtain ⟨g,h2,h3,h4,h5⟩:=h1 hn;exact ⟨g,h2,h3,h4,there_keeps h5 hk (fun h=>h)⟩
theorem HasR.cell {w:World} {B C n size:Nat} {ad:Option Addr} {m cap:Nat} (h:HasR w B C (.slice ad m cap) n size) {k:Nat} (hk:k < n):∃ g,ad=some ⟨g,0,none⟩ /\ B <= g /\ g < C /\ ∀ j,j < size -> ∃ old,w.cell? ⟨g,k*size+j,none⟩=some old /\ w.frozen? ⟨g,k*size+j,none⟩=false:=by
 obtain ⟨ad',cap',e,h1⟩:=h;cases e;obtain ⟨g,h2,h3,h4,h5⟩:=h1 (by omega);refine ⟨g,h2,h3,h4,fun j hj=>?_⟩
 have hlt:k*size+j < n*size:=by
  have:(k+1)*size <= n*size:=Nat.mul_le_mul_right _ hk
  rw [Nat.add_mul] at this;omega
 obtain ⟨a,b⟩:=h5 _ hlt;rw [Nat.zero_add] at a b;obtain ⟨old,ho⟩:=Option.isSome_iff_exists.1 a;exact ⟨old,ho,b⟩
theorem NewRow.slice {e size n:Nat} {w w':World} {cs:List Value} {v:Value} (h:w'.ownsRow 0 e size v n cs):∃ ad cap,v=.slice ad n cap:=by
 rcases h.2 with ⟨e1,e2⟩ | ⟨g,cap,cur,e1,_⟩
 ·exact ⟨none,0,by rw [e1,e2]⟩
 ·exact ⟨_,cap,e1⟩
theorem own_src {w:World} {e n:Nat} {v:Value} {cs:List Value} {size:Nat} (h:w.ownsRow 0 e size v n cs):SrcAt w v n cs:=(FRow.of (B:=0) h (fun _ _=>Nat.zero_le _)).src
structure LkI (w0 wr:World) (B y:Nat) (s1 s2 s3 s4:Value) (nc no nf:Nat):Prop where
 keep:Keeps (fun q=>B <= q) w0 wr
 row:RowAt wr y [s1,s2,s3,s4]
 h1:HasR wr B y s1 nc 1
 h2:HasR wr B y s2 no 1
 h3:HasR wr B y s3 nf 1
 h4:HasR wr B y s4 nf 2
theorem LkI.set {w0 wr:World} {B y:Nat} {s1 s2 s3 s4:Value} {nc no nf:Nat} (h:LkI w0 wr B y s1 s2 s3 s4 nc no nf) (p:Addr) (h1:B <= p.block) (h2:p.block < y) (u:Value):LkI w0 (wr.setCell p u) B y s1 s2 s3 s4 nc no nf :=
 ⟨h.keep.setCell (p:=p) (fun _=>h1) u,h.row.other (fun e=>by omega) u,h.h1.set p u,h.h2.set p u,h.h3.set p u,h.h4.set p u⟩
theorem FRow.form {w:World} {B n:Nat} {v:Value} {cs:List Value} (h:FRow w B v n cs):∃ ad cap,v=.slice ad n cap:=by obtain ⟨ad,cap,e,_⟩:=h;exact ⟨ad,cap,e⟩
theorem SrcAt.up {w w':World} {B:Nat} {v:Value} {n:Nat} {cs:List Value} (h:SrcAt w v n cs) (hk:Keeps (fun q=>B <= q) w w') (hB:w.heap.size <= B) (hc:cs.length=0 -> n=0):SrcAt w' v n cs:=by
 obtain ⟨ad,cap,rfl,h1⟩:=h;refine ⟨ad,cap,rfl,fun hn=>?_⟩
 obtain ⟨g,o,e,h2⟩:=h1 hn;refine ⟨g,o,e,fun j u hj=>?_⟩
 have hlt:=World.block_lt_of_cell? w _ (h2 j u hj);exact hk.cell (p:=⟨g,o+j,none⟩) (fun hb=>by have hb':B <= g:=hb;have hlt':g < w.heap.size:=hlt;omega) (h2 j u hj)
theorem StaSrc.up {w w':World} {B:Nat} {c1 c2 c3 c4:Value} {xs ys ss:List Int} {ps:List (Int × Int)} (h:StaSrc w c1 c2 c3 c4 xs ys ss ps) (hk:Keeps (fun q=>B <= q) w w') (hB:w.heap.size <= B):StaSrc w' c1 c2 c3 c4 xs ys ss ps :=
 ⟨h.cells.up hk hB (by simp [ints]),h.owners.up hk hB (by simp [ints]),h.sts.up hk hB (by simp [ints]),h.next.up hk hB (by intro e;rw [length_cells actC 2 (fun _=>rfl)] at e;omega)⟩
theorem sts_len (m:WMa) (k:Nat) (h:k <= m.ths.length):(stsN m k).length=k:=by simp [stsN];omega
theorem next_len (m:WMa) (k:Nat):(nextN m k).length=k:=by simp [nextN]
theorem StaOut.src {w w':World} {m:WMa} {c1 c2 c3 c4:Value} (h:StaOut w m c1 c2 c3 c4 w'):StaSrc w' c1 c2 c3 c4 m.cells m.owners (stsN m m.ths.length) (nextN m m.ths.length) :=
 ⟨h.cells.src,h.owners.src,by rw [sts_len m _ (Nat.le_refl _)];exact h.sts.src,by rw [next_len];exact h.next.src⟩
theorem RStaEnd.out {w w':World} {m:WMa} {e:Ending} (h:RStaEnd w m e w'):∃ c1 c2 c3 c4,e=.returned (.agg #[c1,c2,c3,c4]) /\ StaOut w m c1 c2 c3 c4 w':=by
 obtain ⟨a1,q1,a2,q2,a3,q3,a4,q4,e,h⟩:=h;exact ⟨_,_,_,_,e,h⟩
end Go.Proofs.YtnmifekgdkgknaaGreatDoor
