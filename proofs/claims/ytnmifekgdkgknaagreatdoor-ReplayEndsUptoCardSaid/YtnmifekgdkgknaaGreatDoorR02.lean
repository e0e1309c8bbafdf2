/- Layer R: texts joined. -/
import Derived.Test.YtnmifekgdkgknaaGreatDoorR01
import Derived.Laws.OwnMore
import Derived.Maps.AppendAt
set_option linter.unusedVariables false
set_option linter.unusedSimpArgs false
set_option linter.unnecessarySimpa false
namespace Go.Proofs.YtnmifekgdkgknaaGreatDoor
open Go.RowKit
def SrcAt (w:World) (v:Value) (n:Nat) (cs:List Value):Prop :=
 ∃ ad cap,v=.slice ad n cap /\ (n ≠ 0 -> ∃ g o,ad=some ⟨g,o,none⟩ /\ ∀ j u,cs[j]?=some u -> w.cell? ⟨g,o+j,none⟩=some u)
def AppOut (w:World) (base e size:Nat) (v:Value) (n:Nat) (xs:List Value) (ad:Option Addr) (cap:Nat) (w':World):Prop :=
 w'.ownsRow base e size (.slice ad n cap) n xs /\ w.grownBy w' v.ownBlock /\ ∀ kb,(Value.slice ad n cap).ownBlock=some kb -> v.ownBlock=some kb \/ kb=w.heap.size
section
variable {P:Program} (w:World)
theorem run_append_src (base:Nat) (t ty e:TypeId) (i:TypeInfo) (z:Value) (size bytes:Nat) (ht:P.underlying t=some (.slice e)) (hi:P.info? e=some i) (hz:i.zero=some z)
 (hsize:i.size=size) (hby:i.bytes=bytes) (hzs:z.cells.size=size) (hsz:0 < size)
 (v:Value) (n:Nat) (xs:List Value) (hown:w.ownsRow base e size v n xs)
 (s:Value) (m:Nat) (news:List Value) (hs:SrcAt w s m news) (hl:news.length=m*size) (h1:∀ u ∈ news,u.oneCell'=true)
 (h63:n+m <= maxLen) (hbytes:(n+m)*bytes <= 140737488355328) (hbase:base <= w.heap.size) :
 ∃ ad cap w',(Builtin.append_ #[t,t] ty #[v,s]).run P w=.ok (.slice ad (n+m) cap) w' /\ AppOut w base e size v (n+m) (xs++news) ad cap w':=by
 obtain ⟨ad,c,rfl,h2⟩:=hs;by_cases hm:m=0
 ·subst hm
  obtain rfl:news=[]:=List.eq_nil_of_length_eq_zero (by simpa using hl);have hsame:w.ownsRow base e size v (n+0) (xs++[]):=by simpa using hown
  have hrun:(Builtin.append_ #[t,t] ty #[v, .slice ad 0 c]).run P w=.ok v w:=by
   rcases hown.2 with ⟨rfl,rfl⟩ | ⟨g,cap,cur,rfl,_,_,hnc,_⟩
   ·cases ad <;> simp [Builtin.append_,run_underlying ht,sizeOf,typeInfo,hi,Builtin.lenOf,Builtin.firstCells,loadCells,loadCellsFrom]
   ·cases ad <;> simp [Builtin.append_,run_underlying ht,sizeOf,typeInfo,hi,Builtin.lenOf,Builtin.firstCells,hnc,storeCells,loadCells,loadCellsFrom]
  rcases hown.2 with ⟨rfl,rfl⟩ | ⟨g,cap,cur,rfl,_,_,hnc,_⟩
  ·exact ⟨none,0,w,hrun,hsame,⟨rfl,rfl,rfl,Nat.le_refl _,fun k hk _=>rfl⟩,fun kb e=>by simp [Value.ownBlock] at e⟩
  ·exact ⟨some ⟨g,0,none⟩,cap,w,by simpa using hrun,hsame,⟨rfl,rfl,rfl,Nat.le_refl _,fun k hk _=>rfl⟩,fun kb e=>.inl (by simpa [Value.ownBlock] using e)⟩
 ·obtain ⟨g,o,rfl,hc⟩:=h2 hm
  obtain ⟨v',w',hr,r1,r2,r3,r4⟩:=run_append_own_at (P:=P) w base t ty e i z size bytes ht hi hz hsize hby hzs hsz v n xs hown ⟨g,o,none⟩ m c news hl (fun j u hj=>by rw [Addr.add_lit];exact hc j u hj) h1 h63 hbytes hbase;obtain ⟨g',cap,rfl,_,_⟩:=r1.form (by omega);refine ⟨_,cap,w',hr,r1,r2,fun kb e=>?_⟩
  rcases r4 with r4 | r4
  ·exact .inl (by rw [<- r4];exact e)
  ·rw [r4] at e;cases e;exact .inr rfl
variable {ops:Array Oper} {o:Oper} {a:Act} {Q:Exit -> Act -> World -> Prop}
theorem wp_append_src {K:Act -> World -> Prop} (s x:Operand) (t:TypeId)
 (ho:o.op=.call { callee:=.builtin .append,args:=#[s,x],argTypes:=#[t,t] })
 (base:Nat) (e:TypeId) (i:TypeInfo) (z:Value) (size bytes:Nat) (ht:P.underlying t=some (.slice e)) (hi:P.info? e=some i) (hz:i.zero=some z)
 (hsize:i.size=size) (hby:i.bytes=bytes) (hzs:z.cells.size=size) (hsz:0 < size)
 (v:Value) (n:Nat) (xs:List Value) (hs:a.eval s=v) (hown:w.ownsRow base e size v n xs)
 (sv:Value) (m:Nat) (news:List Value) (hx:a.eval x=sv) (hsrc:SrcAt w sv m news) (hl:news.length=m*size) (h1:∀ u ∈ news,u.oneCell'=true)
 (h63:n+m <= maxLen) (hbytes:(n+m)*bytes <= 140737488355328) (hbase:base <= w.heap.size)
 (h:∀ ad cap w',AppOut w base e size v (n+m) (xs++news) ad cap w' -> K (a.put o.dst (.slice ad (n+m) cap)) w'):o.wp P a w K Q:=by
 obtain ⟨ad,cap,w',hr,h2⟩:=run_append_src (P:=P) w base t o.type e i z size bytes ht hi hz hsize hby hzs hsz v n xs hown sv m news hsrc hl h1 h63 hbytes hbase;unfold Oper.wp execOp;simp only [ho,resolve,invoke,builtin,Sem.run_bind,Sem.run_pure,Result.andThen_ok,List.map_toArray,List.map_cons,List.map_nil,hs,hx,hr];exact h ad cap w' h2
theorem wpList_append_src {rest:List Oper} (hgd:o.guard=none) (s x:Operand) (t:TypeId)
 (ho:o.op=.call { callee:=.builtin .append,args:=#[s,x],argTypes:=#[t,t] })
 (base:Nat) (e:TypeId) (i:TypeInfo) (z:Value) (size bytes:Nat) (ht:P.underlying t=some (.slice e)) (hi:P.info? e=some i) (hz:i.zero=some z)
 (hsize:i.size=size) (hby:i.bytes=bytes) (hzs:z.cells.size=size) (hsz:0 < size)
 (v:Value) (n:Nat) (xs:List Value) (hs:a.eval s=v) (hown:w.ownsRow base e size v n xs)
 (sv:Value) (m:Nat) (news:List Value) (hx:a.eval x=sv) (hsrc:SrcAt w sv m news) (hl:news.length=m*size) (h1:∀ u ∈ news,u.oneCell'=true)
 (h63:n+m <= maxLen) (hbytes:(n+m)*bytes <= 140737488355328) (hbase:base <= w.heap.size)
 (h:∀ ad cap w',AppOut w base e size v (n+m) (xs++news) ad cap w' -> wpList P ops Q rest (a.put o.dst (.slice ad (n+m) cap)) w'):wpList P ops Q (o :: rest) a w :=
 wpList_plain hgd fun _ hK=>wp_append_src w s x t ho base e i z size bytes ht hi hz hsize hby hzs hsz v n xs hs hown sv m news hx hsrc hl h1 h63 hbytes hbase fun ad cap w' h2=>hK _ _ (h ad cap w' h2)
end
theorem Keeps.trans0 {a b c:World} (h:Keeps NoBlk a b) (h':Keeps NoBlk b c):Keeps NoBlk a c:=h.trans h' (fun _ _ h=>h)
theorem AppOut.keeps {w w':World} {base e size n cap:Nat} {v:Value} {xs:List Value} {ad:Option Addr} (h:AppOut w base e size v n xs ad cap w') {S:Nat -> Prop} {w0:World} (h0:Keeps S w0 w) (hv:∀ k,v.ownBlock=some k -> k < w0.heap.size -> S k):Keeps S w0 w' :=
 h0.grown h.2.1 hv
def FRow (w:World) (B:Nat) (v:Value) (n:Nat) (cs:List Value):Prop :=
 ∃ ad cap,v=.slice ad n cap /\ cap <= maxLen /\ (ad=none -> cap=0) /\ (n ≠ 0 -> ∃ g,ad=some ⟨g,0,none⟩ /\ B <= g /\ RowAt w g cs)
theorem FRow.keeps {S:Nat -> Prop} {w w':World} {B:Nat} {v:Value} {n:Nat} {cs:List Value} (h:FRow w B v n cs) (hk:Keeps S w w') (hS:∀ k,B <= k -> ¬ S k):FRow w' B v n cs:=by
 obtain ⟨ad,cap,e,e1,e2,h1⟩:=h;refine ⟨ad,cap,e,e1,e2,fun hn=>?_⟩
 obtain ⟨g,h2,h3,h4⟩:=h1 hn;exact ⟨g,h2,h3,h4.keeps hk (hS g h3)⟩
theorem FRow.of {w:World} {base e size n B:Nat} {v:Value} {xs:List Value} (h:w.ownsRow base e size v n xs) (hb:∀ k,v.ownBlock=some k -> B <= k):FRow w B v n xs:=by
 rcases h.2 with ⟨rfl,rfl⟩ | ⟨g,cap,cur,rfl,_,hg,_,hm,_⟩
 ·exact ⟨none,0,rfl,by unfold maxLen;omega,fun _=>rfl,fun h=>absurd rfl h⟩
 ·exact ⟨_,cap,rfl,hm,fun h=>(by cases h),fun _=>⟨g,rfl,hb g rfl,RowAt.ofOwns h⟩⟩
theorem FRow.src {w:World} {B n:Nat} {v:Value} {cs:List Value} (h:FRow w B v n cs):SrcAt w v n cs:=by
 obtain ⟨ad,cap,e,_,_,h1⟩:=h;refine ⟨ad,cap,e,fun hn=>?_⟩
 obtain ⟨g,h2,h3,h4⟩:=h1 hn;exact ⟨g,0,h2,h4.rng⟩
theorem SrcAt.keeps {S:Nat -> Prop} {w w':World} {v:Value} {n:Nat} {cs:List Value} (h:SrcAt w v n cs) (hk:Keeps S w w') (hS:∀ k,v.ownBlock=some k -> ¬ S k):SrcAt w' v n cs:=by
 obtain ⟨ad,cap,rfl,h1⟩:=h;refine ⟨ad,cap,rfl,fun hn=>?_⟩
 obtain ⟨g,o,e,h2⟩:=h1 hn;refine ⟨g,o,e,fun j u hj=>hk.cell (p:=⟨g,o+j,none⟩) (hS g (by rw [e];rfl)) (h2 j u hj)⟩
theorem Ex.ind {P:Ex -> Prop} (h:∀ k n s l,(∀ y,y ∈ l -> P y) -> P (.mk k n s l)):(x:Ex) -> P x
 | .mk k n s l=>h k n s l (fun y hy=>Ex.ind h y)
termination_by x=>SizeOf.sizeOf x
decreasing_by
 have:=List.sizeOf_lt_of_mem hy
 simp only [Ex.mk.sizeOf_spec];omega
theorem Ex.len_le (l:List Ex):l.length <= Ex.cntL l:=by
 induction l with
 | nil=>simp
 | cons x r ih=>cases x;simp only [List.length_cons,Ex.cntL,Ex.cnt];omega
theorem Ex.cnt_mem {l:List Ex} {y:Ex} (h:y ∈ l):y.cnt <= Ex.cntL l:=by
 induction l with
 | nil=>cases h
 | cons x r ih =>
   simp only [Ex.cntL];rcases List.mem_cons.1 h with e | e
   ·subst e;omega
   ·have:=ih e;omega
theorem Ex.dep_le:(x:Ex) -> x.dep <= x.cnt:=by
 refine Ex.ind (fun k n s l ih=>?_)
 simp only [Ex.dep,Ex.cnt]
 have:Ex.depL l <= Ex.cntL l:=by
  induction l with
  | nil=>simp [Ex.depL]
  | cons x r ih2 =>
    have h1:=ih x (List.mem_cons_self ..);have h2:=ih2 (fun y hy=>ih y (List.mem_cons_of_mem _ hy));simp only [Ex.depL,Ex.cntL];omega
 omega
theorem drop_at {α:Type} {l:List α} {i:Nat} (h:i < l.length):l.drop i=l[i] :: l.drop (i+1):=List.drop_eq_getElem_cons h
theorem Elems.four {w:World} {F:Nat -> Prop} {n i:Nat} {ad:Option Addr} {css:Nat -> List Value} {a b c d:Value} (h:Elems w F 4 n ad css) (hi:i < n) (hc:css i=[a,b,c,d]) :
 ∃ g o,ad=some ⟨g,o,none⟩ /\ F g /\ w.cell? ⟨g,o+i*4,none⟩=some a /\ w.cell? ⟨g,o+i*4+1,none⟩=some b /\ w.cell? ⟨g,o+i*4+2,none⟩=some c /\ w.cell? ⟨g,o+i*4+3,none⟩=some d:=by
 obtain ⟨g,o,e,hg,hl,hs⟩:=h i hi;rw [hc] at hs;exact ⟨g,o,e,hg,hs 0 _ rfl,hs 1 _ rfl,hs 2 _ rfl,hs 3 _ rfl⟩
def ExsAt (w:World) (F:Nat -> Prop) (l:List Ex) (ad:Option Addr):Prop:=∃ css,Elems w F 4 l.length ad css /\ ∀ i y,l[i]?=some y -> ExAt w F y (css i)
theorem ExsAt.keeps {S F:Nat -> Prop} {w w':World} {l:List Ex} {ad:Option Addr} (h:ExsAt w F l ad) (hk:Keeps S w w') (hS:∀ k,F k -> ¬ S k):ExsAt w' F l ad:=by
 obtain ⟨css,h0,h1⟩:=h;exact ⟨css,h0.keeps hk hS,fun i y e=>(h1 i y e).keeps hk hS⟩
theorem ExsAt.mono {F F':Nat -> Prop} {w:World} {l:List Ex} {ad:Option Addr} (h:ExsAt w F l ad) (hF:∀ k,F k -> F' k):ExsAt w F' l ad:=by
 obtain ⟨css,h0,h1⟩:=h;exact ⟨css,h0.mono hF,fun i y e=>(h1 i y e).mono hF⟩
theorem ExsAt.at {w:World} {F:Nat -> Prop} {l:List Ex} {ad:Option Addr} (h:ExsAt w F l ad) {i:Nat} (hi:i < l.length) :
 ∃ g o a c,ad=some ⟨g,o,none⟩ /\ F g /\ w.cell? ⟨g,o+i*4,none⟩=some (.int .i64 l[i].kind) /\ w.cell? ⟨g,o+i*4+1,none⟩=some (.int .i64 l[i].num) /\ w.cell? ⟨g,o+i*4+2,none⟩=some (.string l[i].nm) ∧
   w.cell? ⟨g,o+i*4+3,none⟩=some (.slice a l[i].args.length c) /\ ExsAt w F l[i].args a:=by
 obtain ⟨css,h0,h1⟩:=h;obtain ⟨a,c,css',e,h2,h3⟩:=(h1 i l[i] (List.getElem?_eq_getElem hi)).show
 obtain ⟨g,o,e1,hg,c0,c1,c2,c3⟩:=h0.four hi e;exact ⟨g,o,a,c,e1,hg,c0,c1,c2,c3,css',h2,h3⟩
def exV (x:Ex) (ad:Option Addr) (cap:Nat):Value:=.agg #[.int .i64 x.kind, .int .i64 x.num, .string x.nm, .slice ad x.args.length cap]
theorem ExAt.exs {w:World} {F:Nat -> Prop} {x:Ex} {cs:List Value} (h:ExAt w F x cs):∃ ad cap,cs=[.int .i64 x.kind, .int .i64 x.num, .string x.nm, .slice ad x.args.length cap] /\ ExsAt w F x.args ad:=by
 obtain ⟨ad,cap,css,e,h1,h2⟩:=h.show
 exact ⟨ad,cap,e,css,h1,h2⟩
theorem ExAt.ofExs {w:World} {F:Nat -> Prop} {x:Ex} {ad:Option Addr} {cap:Nat} (h:ExsAt w F x.args ad):ExAt w F x [.int .i64 x.kind, .int .i64 x.num, .string x.nm, .slice ad x.args.length cap]:=by
 obtain ⟨css,h1,h2⟩:=h;cases x;exact .mk _ _ _ _ ad cap css h1 h2
set_option maxRecDepth 8000 in
theorem exprCount_any:∀ (x:Ex) (w:World) (F:Nat -> Prop) (ad:Option Addr) (cap:Nat),ExsAt w F x.args ad -> x.cnt < 1000000000 →
 Calls Tryz.prog 106 #[exV x ad cap] w fun e w'=>e=.returned (.int .i64 x.cnt) /\ Keeps NoBlk w w':=by
 refine Ex.ind (fun k num nm l ih w F ad cap h hb=>?_)
 have HL:Hid (ExsAt w F l ad):=h;have IH:=Lib.hid ih;have hl:=Ex.len_le l;have hcn:Ex.cnt (.mk k num nm l)=1+Ex.cntL l:=by simp [Ex.cnt]
 rw [hcn] at hb ⊢;clear h ih hcn;obtain ⟨tot,ht⟩:∃ t,t=Ex.cntL l:=⟨_,rfl⟩
 have HT:=Lib.hid ht;rw [<- ht] at hb hl ⊢;clear ht;show Calls _ _ #[.agg #[.int .i64 k, .int .i64 num, .string nm, .slice ad l.length cap]] _ _
 go_enter Tryz.func106,Tryz.ntmps106
 go_upto_region 1 with fail
 obtain ⟨b1,hb1⟩:∃ z,z=w.heap.size:=⟨_,rfl⟩
 have hr1:RowAt (w.alloc (.cells #[.int .i64 k, .int .i64 num, .string nm, .slice ad l.length cap] 72)) b1 [.int .i64 k, .int .i64 num, .string nm, .slice ad l.length cap]:=by rw [hb1];exact RowAt.ofBlock (heap_alloc_new w _)
 have hk1:Keeps NoBlk w (w.alloc (.cells #[.int .i64 k, .int .i64 num, .string nm, .slice ad l.length cap] 72)):=(Keeps.refl _ _).alloc _;rw [<- hb1];generalize w.alloc (.cells #[.int .i64 k, .int .i64 num, .string nm, .slice ad l.length cap] 72)=w1 at hr1 hk1 ⊢;have R1:=Lib.hid hr1;have K1:=Lib.hid hk1;have c3:=hr1.cell (k:=3) (v:=.slice ad l.length cap) rfl;clear hr1 hk1 hb1;go_wp2_with fail
 go_loopw [3,4] (fun nv iv wr=>∃ i n:Nat,i <= l.length /\ nv=.int .i64 n /\ iv=.int .i64 i /\ Hid (n+Ex.cntL (l.drop i)=1+tot) /\ Hid (Keeps NoBlk w1 wr)) (fun _ iv _=>l.length - (intOf iv).toNat)
 case atStart=>exact ⟨0,1,Nat.zero_le _,rfl,rfl,by show _=_;rw [List.drop_zero,HT.out],Keeps.refl _ _⟩
 case round =>
  obtain ⟨i,n,hi,rfl,rfl,HN,HK⟩:=hrel;have c3':=(R1.out.keeps HK.out (fun h=>h)).cell (k:=3) (v:=.slice ad l.length cap) rfl;clear c3;by_cases hlt:i < l.length
  ·have i1:(0:Int) <= i:=by omega
   have i2:(i:Int) < l.length:=by omega
   have hd:=HN.out;rw [drop_at hlt,Ex.cntL] at hd;obtain ⟨g,o,a,c,e1,hg,d0,d1,d2,d3,hx⟩:=(HL.out.keeps (K1.out.trans0 HK.out) (fun _ _ h=>h)).at hlt;subst e1;have HC:Hid (∀ W,Keeps NoBlk wr W -> Calls Tryz.prog 106 #[.agg #[.int .i64 l[i].kind, .int .i64 l[i].num, .string l[i].nm, .slice a l[i].args.length c]] W fun e w'=>e=.returned (.int .i64 l[i].cnt) /\ Keeps NoBlk W w'):=fun W hk=>IH.out _ (List.getElem_mem hlt) W F a c (hx.keeps hk (fun _ _ h=>h)) (by omega)
   obtain ⟨m,hm⟩:∃ m,m=l[i].cnt:=⟨_,rfl⟩
   rw [<- hm] at HC hd;have HD:=Lib.hid hd;have b1:n+m < 1000000001:=by omega
   clear hx hm hd;generalize l[i].kind=x0 at d0 HC;generalize l[i].num=x1 at d1 HC;generalize l[i].nm=x2 at d2 HC;generalize l[i].args.length=x3 at d3 HC;go_wp2_with (go_at_call 106;refine (HC.out _ (Keeps.refl _ _)).mono ?_;rintro e w2 ⟨rfl,g1⟩;have G1:=Lib.hid g1;clear g1)
   go_roundw
   case rel=>exact ⟨i+1,n+m,by omega,by go_num,by go_num,by show _=_;have:=HD.out;omega,HK.out.trans0 G1.out⟩
   case measure=>simp [intOf];omega
  ·obtain rfl:i=l.length:=by omega
   have hd:=HN.out;rw [List.drop_length] at hd;simp only [Ex.cntL] at hd;go_wp2_with fail
   go_ret
   exact ⟨by rw [<- hd];rfl,K1.out.trans0 HK.out⟩
end Go.Proofs.YtnmifekgdkgknaaGreatDoor
namespace Go.Proofs.YtnmifekgdkgknaaGreatDoor
def xNm:ByteArray:=⟨#[120]⟩
def noNm:ByteArray:=⟨#[]⟩
def isNm (s:ByteArray):Bool:=s.data.toList==[120]
def nameAt (n i:Int):ByteArray:=if 0 <= i /\ i < n then xNm else noNm
theorem nameAt_is (n i:Int):isNm (nameAt n i)=(decide (0 <= i)&&decide (i < n)):=by
 unfold nameAt;split
 ·rename_i h;simp [isNm,xNm,h.1,h.2]
 ·rename_i h
  by_cases h0:0 <= i
  ·have:¬ i < n:=fun e=>h ⟨h0,e⟩
   simp [isNm,noNm,this]
  ·simp [isNm,noNm,h0]
theorem noNm_no:noName noNm=true:=rfl
theorem noNm_is:isNm noNm=false:=rfl
mutual
def Ex.named (regs:Int):Ex -> Ex
 | .mk k num nm l=>.mk k (if k=2 then 0 else num) (if k=2 then (if noName nm then nameAt regs num else noNm) else nm) (Ex.namedL regs l)
def Ex.namedL (regs:Int):List Ex -> List Ex
 | []=>[]
 | x :: r=>Ex.named regs x :: Ex.namedL regs r
end
theorem Ex.namedL_map (regs:Int) (l:List Ex):Ex.namedL regs l=l.map (Ex.named regs):=by
 induction l with
 | nil=>rfl
 | cons x r ih=>simp [Ex.namedL,ih]
def exIs (k num:Int) (nm:ByteArray) (n:Nat):Bool :=
 if k=1 then decide (0 <= num)&&decide (num <= 2147483647)&&noName nm&&n==0
 else if k=2 then isNm nm&&num==0&&n==0
 else decide (3 <= k)&&decide (k <= 17)&&n==(if k=3 \/ k=4 then 1 else 2)&&num==0&&noName nm
mutual
def Ex.allIs:Ex -> Bool
 | .mk k num nm l=>exIs k num nm l.length&&Ex.allIsL l
def Ex.allIsL:List Ex -> Bool
 | []=>true
 | x :: r=>Ex.allIs x&&Ex.allIsL r
end
theorem exIs_named (k num regs:Int) (nm:ByteArray) (n:Nat) :
 exIs k (if k=2 then 0 else num) (if k=2 then (if noName nm then nameAt regs num else noNm) else nm) n=exLeaf k num nm n regs:=by
 unfold exIs exLeaf;by_cases h1:k=1
 ·subst h1;simp
 ·by_cases h2:k=2
  ·subst h2
   by_cases h3:noName nm=true
   ·simp [h3,nameAt_is]
   ·simp [h3,noNm_is]
  ·simp only [h1,h2,if_false]
   cases decide (3 <= k) <;> cases decide (k <= 17) <;> cases (num==0) <;> cases noName nm <;> simp
mutual
theorem Ex.allIs_named (regs:Int):(x:Ex) -> Ex.allIs (x.named regs)=x.may regs
 | .mk k num nm l=>by
   have h:=Ex.allIsL_named regs l;have hl:(Ex.namedL regs l).length=l.length:=by rw [Ex.namedL_map];simp
   simp only [Ex.named,Ex.allIs,Ex.may,hl,h,exIs_named]
theorem Ex.allIsL_named (regs:Int):(l:List Ex) -> Ex.allIsL (Ex.namedL regs l)=Ex.mayL regs l
 | []=>rfl
 | x :: r=>by
   have h1:=Ex.allIs_named regs x;have h2:=Ex.allIsL_named regs r;simp only [Ex.namedL,Ex.allIsL,Ex.mayL,h1,h2]
end
mutual
theorem Ex.cnt_named (regs:Int):(x:Ex) -> (x.named regs).cnt=x.cnt
 | .mk k num nm l=>by
   have h:=Ex.cntL_named regs l;simp only [Ex.named,Ex.cnt,h]
theorem Ex.cntL_named (regs:Int):(l:List Ex) -> Ex.cntL (Ex.namedL regs l)=Ex.cntL l
 | []=>rfl
 | x :: r=>by
   have h1:=Ex.cnt_named regs x;have h2:=Ex.cntL_named regs r;simp only [Ex.namedL,Ex.cntL,h1,h2]
end
mutual
theorem Ex.dep_named (regs:Int):(x:Ex) -> (x.named regs).dep=x.dep
 | .mk k num nm l=>by
   have h:=Ex.depL_named regs l;simp only [Ex.named,Ex.dep,h]
theorem Ex.depL_named (regs:Int):(l:List Ex) -> Ex.depL (Ex.namedL regs l)=Ex.depL l
 | []=>rfl
 | x :: r=>by
   have h1:=Ex.dep_named regs x;have h2:=Ex.depL_named regs r;simp only [Ex.namedL,Ex.depL,h1,h2]
end
theorem Ex.there_named (regs:Int) (x:Ex):(x.named regs).there=x.there:=by
 cases x with
 | mk k num nm l =>
   simp only [Ex.named,Ex.there,Ex.namedL_map];cases l <;> rfl
theorem Ex.none_named (regs:Int) (x:Ex):(x.named regs).none=x.none:=by
 cases x with
 | mk k num nm l =>
   simp only [Ex.named,Ex.none,Ex.namedL_map];by_cases h:k=0
   ·subst h;cases l <;> simp
   ·have:(k==0)=false:=by simpa using h
    simp [this]
theorem Ex.kind_named (regs:Int) (x:Ex):(x.named regs).kind=x.kind:=by cases x;rfl
def stKind (k reg obj:Int):Int:=if ((fields k).reg=false /\ reg ≠ 0) \/ ((fields k).name=false /\ obj ≠ 0) then 0 else k
def stName (u:Un) (k obj:Int):ByteArray :=
 if (fields k).name then nameAt (thingsN u k) obj else noNm
mutual
def Ac.named (u:Un) (regs:Int):Ac -> St
 | .mk k reg obj ex count t e=>.mk (stKind k reg obj) (if (fields k).reg then nameAt regs reg else noNm) (stName u k obj) (ex.named regs) count (Ac.namedL u regs t) (Ac.namedL u regs e)
def Ac.namedL (u:Un) (regs:Int):List Ac -> List St
 | []=>[]
 | x :: r=>Ac.named u regs x :: Ac.namedL u regs r
end
theorem Ac.namedL_map (u:Un) (regs:Int) (l:List Ac):Ac.namedL u regs l=l.map (Ac.named u regs):=by
 induction l with
 | nil=>rfl
 | cons x r ih=>simp [Ac.namedL,ih]
def isMust (s:ByteArray) (must:Bool):Bool:=must&&isNm s || !must&&noName s
def stIs (k:Int) (reg name:ByteArray) (ex:Ex) (count:Int) (nt ne:Nat):Bool :=
 decide (1 <= k /\ k <= 11)&&isMust reg (fields k).reg&&isMust name (fields k).name&&((fields k).ex&&ex.kind != 0 || !(fields k).ex&&ex.none) &&
 (count==0 || (fields k).count&&decide (0 < count)&&decide (count <= 1000))&&((fields k).thn || nt==0)&&((fields k).els || ne==0)
mutual
def St.form:St -> Bool
 | .mk k reg name ex count t e=>stIs k reg name ex count t.length e.length&&(!ex.there || ex.allIs)&&St.formL t&&St.formL e
def St.formL:List St -> Bool
 | []=>true
 | x :: r=>St.form x&&St.formL r
end
mutual
def St.cnt:St -> Nat
 | .mk _ _ _ ex _ t e=>1+(if ex.there then ex.cnt else 0)+St.cntL t+St.cntL e
def St.cntL:List St -> Nat
 | []=>0
 | x :: r=>St.cnt x+St.cntL r
end
mutual
def St.deep (d:Nat):St -> Nat
 | .mk _ _ _ ex _ t e=>max (max d (if ex.there then ex.dep else 0)) (max (St.deepL (d+1) t) (St.deepL (d+1) e))
def St.deepL (d:Nat):List St -> Nat
 | []=>0
 | x :: r=>max (St.deep d x) (St.deepL d r)
end
theorem may_kind {regs:Int} {x:Ex} (h:x.may regs=true):x.kind ≠ 0:=by
 cases x with
 | mk k num nm l =>
   intro e
   have e':k=0:=e;subst e';simp [Ex.may,exLeaf] at h
theorem fields_in {k:Int} (h:¬ (1 <= k /\ k <= 11)):fields k=⟨false,false,false,false,false,false⟩:=by
 unfold fields;repeat' (first | rw [if_neg (by omega)])
theorem leaf_named (u:Un) (regs k reg obj:Int) (ex:Ex) (count:Int) (nt ne:Nat) :
 (stIs (stKind k reg obj) (if (fields k).reg then nameAt regs reg else noNm) (stName u k obj) (ex.named regs) count nt ne&&(!ex.there || ex.may regs))=acLeaf u regs k reg obj ex count nt ne:=by
 by_cases hk:1 <= k /\ k <= 11
 ·by_cases hz:((fields k).reg=false /\ reg ≠ 0) \/ ((fields k).name=false /\ obj ≠ 0)
  ·have e1:stKind k reg obj=0:=if_pos hz
   have e2:acLeaf u regs k reg obj ex count nt ne=false:=by
    unfold acLeaf;rcases hz with ⟨h1,h2⟩ | ⟨h1,h2⟩
    ·have:(reg==0)=false:=by simpa using h2
     simp [h1,this]
    ·have:(obj==0)=false:=by simpa using h2
     simp [h1,this]
   rw [e1,e2];simp [stIs]
  ·have e1:stKind k reg obj=k:=if_neg hz
   rw [e1]
   have hr:isMust (if (fields k).reg then nameAt regs reg else noNm) (fields k).reg=(if (fields k).reg then decide (0 <= reg)&&decide (reg < regs) else reg==0):=by
    cases h:(fields k).reg
    ·have:reg=0:=Classical.byContradiction fun e=>hz (.inl ⟨h,e⟩)
     simp [isMust,noNm_no,this]
    ·simp [isMust,nameAt_is]
   have hn:isMust (stName u k obj) (fields k).name=(if (fields k).name then decide (0 <= obj)&&decide (obj < thingsN u k) else obj==0):=by
    unfold stName;cases h:(fields k).name
    ·have:obj=0:=Classical.byContradiction fun e=>hz (.inr ⟨h,e⟩)
     simp [isMust,noNm_no,this]
    ·simp [isMust,nameAt_is]
   have hc:(count==0 || (fields k).count&&decide (0 < count)&&decide (count <= 1000))=(if (fields k).count then decide (0 <= count)&&decide (count <= 1000) else count==0):=by
    cases (fields k).count
    ·simp
    ·by_cases h0:count=0
     ·subst h0;simp
     ·have h1:(count==0)=false:=by simpa using h0
      have h2:decide (0 < count)=decide (0 <= count):=by rw [decide_eq_decide];omega
      simp [h1,h2]
   have hx:(((fields k).ex&&(ex.named regs).kind != 0 || !(fields k).ex&&(ex.named regs).none)&&(!ex.there || ex.may regs))=(if (fields k).ex then ex.may regs else ex.none):=by
    rw [Ex.kind_named,Ex.none_named];cases (fields k).ex
    ·cases hn:ex.none
     ·simp
     ·have:ex.there=false:=by
       cases ex with
       | mk a b c l =>
         simp only [Ex.none,Bool.and_eq_true,beq_iff_eq,List.isEmpty_iff] at hn;simp [Ex.there,hn.1.1.1,hn.2]
      simp [this]
    ·cases hm:ex.may regs
     ·cases ht:ex.there
      ·have:ex.kind=0:=by
        cases ex with
        | mk a b c l=>simp [Ex.there] at ht;exact ht.1
       simp [this]
      ·simp
     ·have:=may_kind hm
      have h1:(ex.kind != 0)=true:=by simpa using this
      simp [h1]
   unfold stIs acLeaf;rw [hr,hn,hc,<- hx];have hk1:decide (1 <= k /\ k <= 11)=true:=decide_eq_true hk;simp only [hk1,decide_eq_true hk.1,decide_eq_true hk.2,Bool.true_and];generalize (if (fields k).reg then decide (0 <= reg)&&decide (reg < regs) else reg==0)=A;generalize (if (fields k).name then decide (0 <= obj)&&decide (obj < thingsN u k) else obj==0)=B;generalize ((fields k).ex&&(ex.named regs).kind != 0 || !(fields k).ex&&(ex.named regs).none)=C;generalize (if (fields k).count then decide (0 <= count)&&decide (count <= 1000) else count==0)=D;generalize ((fields k).thn || nt==0)=E;generalize ((fields k).els || ne==0)=F;generalize (!ex.there || ex.may regs)=G;cases A <;> cases B <;> cases C <;> cases D <;> cases E <;> cases F <;> cases G <;> rfl
 ·have e2:acLeaf u regs k reg obj ex count nt ne=false:=by
   unfold acLeaf
   have:(decide (1 <= k)&&decide (k <= 11))=false:=by
    by_cases h1:1 <= k
    ·have:¬ k <= 11:=fun e=>hk ⟨h1,e⟩
     simp [this]
    ·simp [h1]
   rw [this];simp
  have e1:¬ (1 <= stKind k reg obj /\ stKind k reg obj <= 11):=by
   unfold stKind;split
   ·omega
   ·exact hk
  rw [e2];unfold stIs;rw [decide_eq_false e1];simp
mutual
theorem Ac.form_named (u:Un) (regs:Int):(x:Ac) -> (x.named u regs).form=x.may u regs
 | .mk k reg obj ex count t e=>by
   have h1:=Ac.formL_named u regs t;have h2:=Ac.formL_named u regs e;have hl1:(Ac.namedL u regs t).length=t.length:=by rw [Ac.namedL_map];simp
   have hl2:(Ac.namedL u regs e).length=e.length:=by rw [Ac.namedL_map];simp
   simp only [Ac.named,St.form,Ac.may,hl1,hl2,h1,h2,Ex.there_named,Ex.allIs_named,leaf_named]
theorem Ac.formL_named (u:Un) (regs:Int):(l:List Ac) -> St.formL (Ac.namedL u regs l)=Ac.mayL u regs l
 | []=>rfl
 | x :: r=>by
   have h1:=Ac.form_named u regs x;have h2:=Ac.formL_named u regs r;simp only [Ac.namedL,St.formL,Ac.mayL,h1,h2]
end
mutual
theorem Ac.cnt_named (u:Un) (regs:Int):(x:Ac) -> (x.named u regs).cnt=x.cnt
 | .mk k reg obj ex count t e=>by
   have h1:=Ac.cntL_named u regs t;have h2:=Ac.cntL_named u regs e;simp only [Ac.named,St.cnt,Ac.cnt,h1,h2,Ex.there_named,Ex.cnt_named]
theorem Ac.cntL_named (u:Un) (regs:Int):(l:List Ac) -> St.cntL (Ac.namedL u regs l)=Ac.cntL l
 | []=>rfl
 | x :: r=>by
   have h1:=Ac.cnt_named u regs x;have h2:=Ac.cntL_named u regs r;simp only [Ac.namedL,St.cntL,Ac.cntL,h1,h2]
end
mutual
theorem Ac.deep_named (u:Un) (regs:Int) (d:Nat):(x:Ac) -> (x.named u regs).deep d=x.deep d
 | .mk k reg obj ex count t e=>by
   have h1:=Ac.deepL_named u regs (d+1) t;have h2:=Ac.deepL_named u regs (d+1) e;simp only [Ac.named,St.deep,Ac.deep,h1,h2,Ex.there_named,Ex.dep_named]
theorem Ac.deepL_named (u:Un) (regs:Int) (d:Nat):(l:List Ac) -> St.deepL d (Ac.namedL u regs l)=Ac.deepL d l
 | []=>rfl
 | x :: r=>by
   have h1:=Ac.deep_named u regs d x;have h2:=Ac.deepL_named u regs d r;simp only [Ac.namedL,St.deepL,Ac.deepL,h1,h2]
end
end Go.Proofs.YtnmifekgdkgknaaGreatDoor
