/- Layer L: texts joined. -/
import Derived.Test.YtfokdllgnblamaaGreatDoorL01
set_option linter.all false
set_option maxRecDepth 8000
namespace Go.Proofs.YtfokdllgnblamaaGreatDoor
open Go.RowKit
abbrev vW:=@List.mem_cons_self
abbrev vJ:=@List.mem_cons_of_mem
abbrev uU:=@if_false
abbrev uQ:=@List.map_cons
abbrev uN:=@Classical.byContradiction
abbrev uG:=@zC.zAm
abbrev xZ:=@decide_eq_true
abbrev xY:=@decide_eq_false
abbrev xU:=@List.mem_cons
abbrev xI:=@List.drop_length
abbrev yR:=@Bool.and_eq_true
abbrev yQ:=@List.drop_zero
abbrev yM:=@zC.zD
abbrev yL:=@List.getElem_mem
abbrev yB:=@Keeps.refl
abbrev yA:=@Go.Lib.hid
theorem J38 (P:Prop) (h:P:=by
 go_wp2_with fail
 go_ret
 exact ⟨by rw [<- hd];rfl,K1.out.zB HK.out⟩):P:=h
theorem J65 (P:Prop) (h:P:=by
 obtain ⟨css,h0,h1⟩:=h;exact ⟨css,h0.keeps hk hS,fun i y e=>(h1 i y e).keeps hk hS⟩):P:=h
theorem J73 (P:Prop) (h:P:=by
 obtain ⟨css,h0,h1⟩:=h;exact ⟨css,h0.mono hF,fun i y e=>(h1 i y e).mono hF⟩):P:=h
theorem J83 (P:Prop) (h:P:=by
 go_roundw
 case rel=>exact ⟨i+1,n+m,by omega,by go_num,by go_num,by show _=_;have:=HD.out;omega,HK.out.zB G1.out⟩
 case measure=>simp [intOf];omega):P:=h
theorem J151 (P:Prop) (h:P:=by rw [hb1];exact yM (yG w _)):P:=h
theorem J153 (P:Prop) (h:P:=by simp [Value.ownBlock] at e):P:=h
theorem J214 (P:Prop) (h:P:=by simpa [Value.ownBlock] using e):P:=h
def zl (w:World) (v:Value) (n:Nat) (cs:List Value):Prop :=
 ∃ ad cap,v=.slice ad n cap /\ (n ≠ 0 -> ∃ g o,ad=some ⟨g,o,none⟩ /\ ∀ j u,cs[j]?=some u -> w.cell? ⟨g,o+j,none⟩=some u)
def zy (w:World) (base e size:Nat) (v:Value) (n:Nat) (xs:List Value) (ad:Option Addr) (cap:Nat) (w':World):Prop :=
 w'.ownsRow base e size (.slice ad n cap) n xs /\ w.grownBy w' v.ownBlock /\ ∀ kb,(Value.slice ad n cap).ownBlock=some kb -> v.ownBlock=some kb \/ kb=w.heap.size
section
variable {P:Program} (w:World)
theorem zFc (base:Nat) (t ty e:TypeId) (i:TypeInfo) (z:Value) (size bytes:Nat) (ht:P.underlying t=some (.slice e)) (hi:P.info? e=some i) (hz:i.zero=some z)
 (hsize:i.size=size) (hby:i.bytes=bytes) (hzs:z.cells.size=size) (hsz:0 < size)
 (v:Value) (n:Nat) (xs:List Value) (hown:w.ownsRow base e size v n xs)
 (s:Value) (m:Nat) (news:List Value) (hs:zl w s m news) (hl:news.length=m*size) (h1:∀ u ∈ news,u.oneCell'=true)
 (h63:n+m <= maxLen) (hbytes:(n+m)*bytes <= 140737488355328) (hbase:base <= w.heap.size) :
 ∃ ad cap w',(Builtin.append_ #[t,t] ty #[v,s]).run P w=.ok (.slice ad (n+m) cap) w' /\ zy w base e size v (n+m) (xs++news) ad cap w':=by
 obtain ⟨ad,c,rfl,h2⟩:=hs;by_cases hm:m=0
 ·subst hm
  obtain rfl:news=[]:=vI (by simpa using hl);have hsame:w.ownsRow base e size v (n+0) (xs++[]):=by simpa using hown
  have hrun:(Builtin.append_ #[t,t] ty #[v, .slice ad 0 c]).run P w=.ok v w:=by
   rcases hown.2 with ⟨rfl,rfl⟩ | ⟨g,cap,cur,rfl,_,_,hnc,_⟩
   ·cases ad <;> simp [Builtin.append_,run_underlying ht,sizeOf,typeInfo,hi,Builtin.lenOf,Builtin.firstCells,loadCells,loadCellsFrom]
   ·cases ad <;> simp [Builtin.append_,run_underlying ht,sizeOf,typeInfo,hi,Builtin.lenOf,Builtin.firstCells,hnc,storeCells,loadCells,loadCellsFrom]
  rcases hown.2 with ⟨rfl,rfl⟩ | ⟨g,cap,cur,rfl,_,_,hnc,_⟩
  ·exact ⟨none,0,w,hrun,hsame,⟨rfl,rfl,rfl,yV _,fun k hk _=>rfl⟩,fun kb e=>by exact J153 _⟩
  ·exact ⟨some ⟨g,0,none⟩,cap,w,by simpa using hrun,hsame,⟨rfl,rfl,rfl,yV _,fun k hk _=>rfl⟩,fun kb e=>.inl (J214 _)⟩
 ·obtain ⟨g,o,rfl,hc⟩:=h2 hm
  obtain ⟨v',w',hr,r1,r2,r3,r4⟩:=run_append_own_at (P:=P) w base t ty e i z size bytes ht hi hz hsize hby hzs hsz v n xs hown ⟨g,o,none⟩ m c news hl (fun j u hj=>by rw [Addr.add_lit];exact hc j u hj) h1 h63 hbytes hbase;obtain ⟨g',cap,rfl,_,_⟩:=r1.form (by omega);refine ⟨_,cap,w',hr,r1,r2,fun kb e=>?_⟩
  rcases r4 with r4 | r4
  ·exact .inl (by rw [<- r4];exact e)
  ·rw [r4] at e;cases e;exact .inr rfl
variable {ops:Array Oper} {o:Oper} {a:Act} {Q:Exit -> Act -> World -> Prop}
theorem zGE {K:Act -> World -> Prop} (s x:Operand) (t:TypeId)
 (ho:o.op=.call { callee:=.builtin .append,args:=#[s,x],argTypes:=#[t,t] })
 (base:Nat) (e:TypeId) (i:TypeInfo) (z:Value) (size bytes:Nat) (ht:P.underlying t=some (.slice e)) (hi:P.info? e=some i) (hz:i.zero=some z)
 (hsize:i.size=size) (hby:i.bytes=bytes) (hzs:z.cells.size=size) (hsz:0 < size)
 (v:Value) (n:Nat) (xs:List Value) (hs:a.eval s=v) (hown:w.ownsRow base e size v n xs)
 (sv:Value) (m:Nat) (news:List Value) (hx:a.eval x=sv) (hsrc:zl w sv m news) (hl:news.length=m*size) (h1:∀ u ∈ news,u.oneCell'=true)
 (h63:n+m <= maxLen) (hbytes:(n+m)*bytes <= 140737488355328) (hbase:base <= w.heap.size)
 (h:∀ ad cap w',zy w base e size v (n+m) (xs++news) ad cap w' -> K (a.put o.dst (.slice ad (n+m) cap)) w'):o.wp P a w K Q:=by
 obtain ⟨ad,cap,w',hr,h2⟩:=zFc (P:=P) w base t o.type e i z size bytes ht hi hz hsize hby hzs hsz v n xs hown sv m news hsrc hl h1 h63 hbytes hbase;unfold Oper.wp execOp;simp only [ho,resolve,invoke,builtin,Sem.run_bind,Sem.run_pure,Result.andThen_ok,List.map_toArray,uQ,List.map_nil,hs,hx,hr];exact h ad cap w' h2
theorem zH {rest:List Oper} (hgd:o.guard=none) (s x:Operand) (t:TypeId)
 (ho:o.op=.call { callee:=.builtin .append,args:=#[s,x],argTypes:=#[t,t] })
 (base:Nat) (e:TypeId) (i:TypeInfo) (z:Value) (size bytes:Nat) (ht:P.underlying t=some (.slice e)) (hi:P.info? e=some i) (hz:i.zero=some z)
 (hsize:i.size=size) (hby:i.bytes=bytes) (hzs:z.cells.size=size) (hsz:0 < size)
 (v:Value) (n:Nat) (xs:List Value) (hs:a.eval s=v) (hown:w.ownsRow base e size v n xs)
 (sv:Value) (m:Nat) (news:List Value) (hx:a.eval x=sv) (hsrc:zl w sv m news) (hl:news.length=m*size) (h1:∀ u ∈ news,u.oneCell'=true)
 (h63:n+m <= maxLen) (hbytes:(n+m)*bytes <= 140737488355328) (hbase:base <= w.heap.size)
 (h:∀ ad cap w',zy w base e size v (n+m) (xs++news) ad cap w' -> wpList P ops Q rest (a.put o.dst (.slice ad (n+m) cap)) w'):wpList P ops Q (o :: rest) a w :=
 wpList_plain hgd fun _ hK=>zGE w s x t ho base e i z size bytes ht hi hz hsize hby hzs hsz v n xs hs hown sv m news hx hsrc hl h1 h63 hbytes hbase fun ad cap w' h2=>hK _ _ (h ad cap w' h2)
end
theorem Keeps.zB {a b c:World} (h:Keeps zA a b) (h':Keeps zA b c):Keeps zA a c:=h.trans h' (fun _ _ h=>h)
theorem zy.keeps {w w':World} {base e size n cap:Nat} {v:Value} {xs:List Value} {ad:Option Addr} (h:zy w base e size v n xs ad cap w') {S:Nat -> Prop} {w0:World} (h0:Keeps S w0 w) (hv:∀ k,v.ownBlock=some k -> k < w0.heap.size -> S k):Keeps S w0 w' :=
 h0.grown h.2.1 hv
def zAO (w:World) (B:Nat) (v:Value) (n:Nat) (cs:List Value):Prop :=
 ∃ ad cap,v=.slice ad n cap /\ cap <= maxLen /\ (ad=none -> cap=0) /\ (n ≠ 0 -> ∃ g,ad=some ⟨g,0,none⟩ /\ B <= g /\ zC w g cs)
theorem zAO.keeps {S:Nat -> Prop} {w w':World} {B:Nat} {v:Value} {n:Nat} {cs:List Value} (h:zAO w B v n cs) (hk:Keeps S w w') (hS:∀ k,B <= k -> ¬ S k):zAO w' B v n cs:=by
 obtain ⟨ad,cap,e,e1,e2,h1⟩:=h;refine ⟨ad,cap,e,e1,e2,fun hn=>?_⟩
 obtain ⟨g,h2,h3,h4⟩:=h1 hn;exact ⟨g,h2,h3,h4.keeps hk (hS g h3)⟩
theorem zAO.of {w:World} {base e size n B:Nat} {v:Value} {xs:List Value} (h:w.ownsRow base e size v n xs) (hb:∀ k,v.ownBlock=some k -> B <= k):zAO w B v n xs:=by
 rcases h.2 with ⟨rfl,rfl⟩ | ⟨g,cap,cur,rfl,_,hg,_,hm,_⟩
 ·exact ⟨none,0,rfl,by unfold maxLen;omega,fun _=>rfl,fun h=>absurd rfl h⟩
 ·exact ⟨_,cap,rfl,hm,fun h=>(by cases h),fun _=>⟨g,rfl,hb g rfl,uG h⟩⟩
theorem zAO.src {w:World} {B n:Nat} {v:Value} {cs:List Value} (h:zAO w B v n cs):zl w v n cs:=by
 obtain ⟨ad,cap,e,_,_,h1⟩:=h;refine ⟨ad,cap,e,fun hn=>?_⟩
 obtain ⟨g,h2,h3,h4⟩:=h1 hn;exact ⟨g,0,h2,h4.rng⟩
theorem zl.keeps {S:Nat -> Prop} {w w':World} {v:Value} {n:Nat} {cs:List Value} (h:zl w v n cs) (hk:Keeps S w w') (hS:∀ k,v.ownBlock=some k -> ¬ S k):zl w' v n cs:=by
 obtain ⟨ad,cap,rfl,h1⟩:=h;refine ⟨ad,cap,rfl,fun hn=>?_⟩
 obtain ⟨g,o,e,h2⟩:=h1 hn;refine ⟨g,o,e,fun j u hj=>hk.cell (p:=⟨g,o+j,none⟩) (hS g (by rw [e];rfl)) (h2 j u hj)⟩
theorem Ex.ind {P:Ex -> Prop} (h:∀ k n s l,(∀ y,y ∈ l -> P y) -> P (.mk k n s l)):(x:Ex) -> P x
 | .mk k n s l=>h k n s l (fun y hy=>Ex.ind h y)
termination_by x=>SizeOf.sizeOf x
decreasing_by
 have:=List.sizeOf_lt_of_mem hy
 simp only [Ex.mk.sizeOf_spec];omega
theorem Ex.zAg (l:List Ex):l.length <= Ex.zY l:=by
 induction l with
 | nil=>simp
 | cons x r ih=>cases x;simp only [xQ,Ex.zY,Ex.cnt];omega
theorem Ex.zB6 {l:List Ex} {y:Ex} (h:y ∈ l):y.cnt <= Ex.zY l:=by
 induction l with
 | nil=>cases h
 | cons x r ih =>
   simp only [Ex.zY];rcases xU.1 h with e | e
   ·subst e;omega
   ·have:=ih e;omega
theorem Ex.zHE:(x:Ex) -> x.dep <= x.cnt:=by
 refine Ex.ind (fun k n s l ih=>?_)
 simp only [Ex.dep,Ex.cnt]
 have:Ex.zCZ l <= Ex.zY l:=by
  induction l with
  | nil=>simp [Ex.zCZ]
  | cons x r ih2 =>
    have h1:=ih x (vW ..);have h2:=ih2 (fun y hy=>ih y (vJ _ hy));simp only [Ex.zCZ,Ex.zY];omega
 omega
theorem drop_at {α:Type} {l:List α} {i:Nat} (h:i < l.length):l.drop i=l[i] :: l.drop (i+1):=List.drop_eq_getElem_cons h
theorem zBQ.four {w:World} {F:Nat -> Prop} {n i:Nat} {ad:Option Addr} {css:Nat -> List Value} {a b c d:Value} (h:zBQ w F 4 n ad css) (hi:i < n) (hc:css i=[a,b,c,d]) :
 ∃ g o,ad=some ⟨g,o,none⟩ /\ F g /\ w.cell? ⟨g,o+i*4,none⟩=some a /\ w.cell? ⟨g,o+i*4+1,none⟩=some b /\ w.cell? ⟨g,o+i*4+2,none⟩=some c /\ w.cell? ⟨g,o+i*4+3,none⟩=some d:=by
 obtain ⟨g,o,e,hg,hl,hs⟩:=h i hi;rw [hc] at hs;exact ⟨g,o,e,hg,hs 0 _ rfl,hs 1 _ rfl,hs 2 _ rfl,hs 3 _ rfl⟩
def zQ (w:World) (F:Nat -> Prop) (l:List Ex) (ad:Option Addr):Prop:=∃ css,zBQ w F 4 l.length ad css /\ ∀ i y,l[i]?=some y -> zBC w F y (css i)
theorem zQ.keeps {S F:Nat -> Prop} {w w':World} {l:List Ex} {ad:Option Addr} (h:zQ w F l ad) (hk:Keeps S w w') (hS:∀ k,F k -> ¬ S k):zQ w' F l ad:=by
 exact J65 _
theorem zQ.mono {F F':Nat -> Prop} {w:World} {l:List Ex} {ad:Option Addr} (h:zQ w F l ad) (hF:∀ k,F k -> F' k):zQ w F' l ad:=by
 exact J73 _
theorem zQ.at {w:World} {F:Nat -> Prop} {l:List Ex} {ad:Option Addr} (h:zQ w F l ad) {i:Nat} (hi:i < l.length) :
 ∃ g o a c,ad=some ⟨g,o,none⟩ /\ F g /\ w.cell? ⟨g,o+i*4,none⟩=some (.int .i64 l[i].kind) /\ w.cell? ⟨g,o+i*4+1,none⟩=some (.int .i64 l[i].num) /\ w.cell? ⟨g,o+i*4+2,none⟩=some (.string l[i].nm) ∧
   w.cell? ⟨g,o+i*4+3,none⟩=some (.slice a l[i].args.length c) /\ zQ w F l[i].args a:=by
 obtain ⟨css,h0,h1⟩:=h;obtain ⟨a,c,css',e,h2,h3⟩:=(h1 i l[i] (yJ hi)).show
 obtain ⟨g,o,e1,hg,c0,c1,c2,c3⟩:=h0.four hi e;exact ⟨g,o,a,c,e1,hg,c0,c1,c2,c3,css',h2,h3⟩
def exV (x:Ex) (ad:Option Addr) (cap:Nat):Value:=.agg #[.int .i64 x.kind, .int .i64 x.num, .string x.nm, .slice ad x.args.length cap]
theorem zBC.exs {w:World} {F:Nat -> Prop} {x:Ex} {cs:List Value} (h:zBC w F x cs):∃ ad cap,cs=[.int .i64 x.kind, .int .i64 x.num, .string x.nm, .slice ad x.args.length cap] /\ zQ w F x.args ad:=by
 obtain ⟨ad,cap,css,e,h1,h2⟩:=h.show
 exact ⟨ad,cap,e,css,h1,h2⟩
theorem zBC.zHd {w:World} {F:Nat -> Prop} {x:Ex} {ad:Option Addr} {cap:Nat} (h:zQ w F x.args ad):zBC w F x [.int .i64 x.kind, .int .i64 x.num, .string x.nm, .slice ad x.args.length cap]:=by
 obtain ⟨css,h1,h2⟩:=h;cases x;exact .mk _ _ _ _ ad cap css h1 h2
theorem zDx:∀ (x:Ex) (w:World) (F:Nat -> Prop) (ad:Option Addr) (cap:Nat),zQ w F x.args ad -> x.cnt < 1000000000 →
 Calls Tryz.prog 108 #[exV x ad cap] w fun e w'=>e=.returned (.int .i64 x.cnt) /\ Keeps zA w w':=by
 refine Ex.ind (fun k num nm l ih w F ad cap h hb=>?_)
 have HL:Hid (zQ w F l ad):=h;have IH:=yA ih;have hl:=Ex.zAg l;have hcn:Ex.cnt (.mk k num nm l)=1+Ex.zY l:=by simp [Ex.cnt]
 rw [hcn] at hb ⊢;clear h ih hcn;obtain ⟨tot,ht⟩:∃ t,t=Ex.zY l:=⟨_,rfl⟩
 have HT:=yA ht;rw [<- ht] at hb hl ⊢;clear ht;show Calls _ _ #[.agg #[.int .i64 k, .int .i64 num, .string nm, .slice ad l.length cap]] _ _
 go_enter Tryz.func108,Tryz.ntmps108
 go_upto_region 1 with fail
 obtain ⟨b1,hb1⟩:∃ z,z=w.heap.size:=⟨_,rfl⟩
 have hr1:zC (w.alloc (.cells #[.int .i64 k, .int .i64 num, .string nm, .slice ad l.length cap] 65)) b1 [.int .i64 k, .int .i64 num, .string nm, .slice ad l.length cap]:=J151 _;have hk1:Keeps zA w (w.alloc (.cells #[.int .i64 k, .int .i64 num, .string nm, .slice ad l.length cap] 65)):=(yB _ _).alloc _;rw [<- hb1];generalize w.alloc (.cells #[.int .i64 k, .int .i64 num, .string nm, .slice ad l.length cap] 65)=w1 at hr1 hk1 ⊢;have R1:=yA hr1;have K1:=yA hk1;have c3:=hr1.cell (k:=3) (v:=.slice ad l.length cap) rfl;clear hr1 hk1 hb1;go_wp2_with fail
 go_loopw [3,4] (fun nv iv wr=>∃ i n:Nat,i <= l.length /\ nv=.int .i64 n /\ iv=.int .i64 i /\ Hid (n+Ex.zY (l.drop i)=1+tot) /\ Hid (Keeps zA w1 wr)) (fun _ iv _=>l.length - (intOf iv).toNat)
 case atStart=>exact ⟨0,1,yH _,rfl,rfl,by show _=_;rw [yQ,HT.out],yB _ _⟩
 case round =>
  obtain ⟨i,n,hi,rfl,rfl,HN,HK⟩:=hrel;have c3':=(R1.out.keeps HK.out (fun h=>h)).cell (k:=3) (v:=.slice ad l.length cap) rfl;clear c3;by_cases hlt:i < l.length
  ·have i1:(0:Int) <= i:=by omega
   have i2:(i:Int) < l.length:=by omega
   have hd:=HN.out;rw [drop_at hlt,Ex.zY] at hd;obtain ⟨g,o,a,c,e1,hg,d0,d1,d2,d3,hx⟩:=(HL.out.keeps (K1.out.zB HK.out) (fun _ _ h=>h)).at hlt;subst e1;have HC:Hid (∀ W,Keeps zA wr W -> Calls Tryz.prog 108 #[.agg #[.int .i64 l[i].kind, .int .i64 l[i].num, .string l[i].nm, .slice a l[i].args.length c]] W fun e w'=>e=.returned (.int .i64 l[i].cnt) /\ Keeps zA W w'):=fun W hk=>IH.out _ (yL hlt) W F a c (hx.keeps hk (fun _ _ h=>h)) (by omega)
   obtain ⟨m,hm⟩:∃ m,m=l[i].cnt:=⟨_,rfl⟩
   rw [<- hm] at HC hd;have HD:=yA hd;have b1:n+m < 1000000001:=by omega
   clear hx hm hd;generalize l[i].kind=x0 at d0 HC;generalize l[i].num=x1 at d1 HC;generalize l[i].nm=x2 at d2 HC;generalize l[i].args.length=x3 at d3 HC;go_wp2_with (go_at_call 108;refine (HC.out _ (yB _ _)).mono ?_;rintro e w2 ⟨rfl,g1⟩;have G1:=yA g1;clear g1)
   exact J83 _
  ·obtain rfl:i=l.length:=by omega
   have hd:=HN.out;rw [xI] at hd;simp only [Ex.zY] at hd;exact J38 _
end Go.Proofs.YtfokdllgnblamaaGreatDoor
namespace Go.Proofs.YtfokdllgnblamaaGreatDoor
def xNm:ByteArray:=⟨#[120]⟩
def zu:ByteArray:=⟨#[]⟩
def zGF (s:ByteArray):Bool:=s.data.toList==[120]
def nameAt (n i:Int):ByteArray:=if 0 <= i /\ i < n then xNm else zu
theorem zEo (n i:Int):zGF (nameAt n i)=(decide (0 <= i)&&decide (i < n)):=by
 unfold nameAt;split
 ·rename_i h;simp [zGF,xNm,h.1,h.2]
 ·rename_i h
  by_cases h0:0 <= i
  ·have:¬ i < n:=fun e=>h ⟨h0,e⟩
   simp [zGF,zu,this]
  ·simp [zGF,zu,h0]
theorem zGt:zW zu=true:=rfl
theorem zMq:zGF zu=false:=rfl
mutual
def Ex.named (regs:Int):Ex -> Ex
 | .mk k num nm l=>.mk k (if k=2 then 0 else num) (if k=2 then (if zW nm then nameAt regs num else zu) else nm) (Ex.zO regs l)
def Ex.zO (regs:Int):List Ex -> List Ex
 | []=>[]
 | x :: r=>Ex.named regs x :: Ex.zO regs r
end
theorem Ex.zAX (regs:Int) (l:List Ex):Ex.zO regs l=l.map (Ex.named regs):=by
 induction l with
 | nil=>rfl
 | cons x r ih=>simp [Ex.zO,ih]
def zAv (k num:Int) (nm:ByteArray) (n:Nat):Bool :=
 if k=1 then decide (0 <= num)&&decide (num <= 2147483647)&&zW nm&&n==0
 else if k=2 then zGF nm&&num==0&&n==0
 else decide (3 <= k)&&decide (k <= 17)&&n==(if k=3 \/ k=4 then 1 else 2)&&num==0&&zW nm
mutual
def Ex.zCr:Ex -> Bool
 | .mk k num nm l=>zAv k num nm l.length&&Ex.zC1 l
def Ex.zC1:List Ex -> Bool
 | []=>true
 | x :: r=>Ex.zCr x&&Ex.zC1 r
end
theorem zIl (k num regs:Int) (nm:ByteArray) (n:Nat) :
 zAv k (if k=2 then 0 else num) (if k=2 then (if zW nm then nameAt regs num else zu) else nm) n=zAE k num nm n regs:=by
 unfold zAv zAE;by_cases h1:k=1
 ·subst h1;simp
 ·by_cases h2:k=2
  ·subst h2
   by_cases h3:zW nm=true
   ·simp [h3,zEo]
   ·simp [h3,zMq]
  ·simp only [h1,h2,uU]
   cases decide (3 <= k) <;> cases decide (k <= 17) <;> cases (num==0) <;> cases zW nm <;> simp
mutual
theorem Ex.zE9 (regs:Int):(x:Ex) -> Ex.zCr (x.named regs)=x.may regs
 | .mk k num nm l=>by
   have h:=Ex.zEQ regs l;have hl:(Ex.zO regs l).length=l.length:=by rw [Ex.zAX];simp
   simp only [Ex.named,Ex.zCr,Ex.may,hl,h,zIl]
theorem Ex.zEQ (regs:Int):(l:List Ex) -> Ex.zC1 (Ex.zO regs l)=Ex.zAC regs l
 | []=>rfl
 | x :: r=>by
   have h1:=Ex.zE9 regs x;have h2:=Ex.zEQ regs r;simp only [Ex.zO,Ex.zC1,Ex.zAC,h1,h2]
end
mutual
theorem Ex.zCs (regs:Int):(x:Ex) -> (x.named regs).cnt=x.cnt
 | .mk k num nm l=>by
   have h:=Ex.zBj regs l;simp only [Ex.named,Ex.cnt,h]
theorem Ex.zBj (regs:Int):(l:List Ex) -> Ex.zY (Ex.zO regs l)=Ex.zY l
 | []=>rfl
 | x :: r=>by
   have h1:=Ex.zCs regs x;have h2:=Ex.zBj regs r;simp only [Ex.zO,Ex.zY,h1,h2]
end
mutual
theorem Ex.zGS (regs:Int):(x:Ex) -> (x.named regs).dep=x.dep
 | .mk k num nm l=>by
   have h:=Ex.zFn regs l;simp only [Ex.named,Ex.dep,h]
theorem Ex.zFn (regs:Int):(l:List Ex) -> Ex.zCZ (Ex.zO regs l)=Ex.zCZ l
 | []=>rfl
 | x :: r=>by
   have h1:=Ex.zGS regs x;have h2:=Ex.zFn regs r;simp only [Ex.zO,Ex.zCZ,h1,h2]
end
theorem Ex.zDL (regs:Int) (x:Ex):(x.named regs).there=x.there:=by
 cases x with
 | mk k num nm l =>
   simp only [Ex.named,Ex.there,Ex.zAX];cases l <;> rfl
theorem Ex.zIx (regs:Int) (x:Ex):(x.named regs).none=x.none:=by
 cases x with
 | mk k num nm l =>
   simp only [Ex.named,Ex.none,Ex.zAX];by_cases h:k=0
   ·subst h;cases l <;> simp
   ·have:(k==0)=false:=by simpa using h
    simp [this]
theorem Ex.zIo (regs:Int) (x:Ex):(x.named regs).kind=x.kind:=by cases x;rfl
def zCF (k reg obj:Int):Int:=if ((fields k).reg=false /\ reg ≠ 0) \/ ((fields k).name=false /\ obj ≠ 0) then 0 else k
def stName (u:Un) (k obj:Int):ByteArray :=
 if (fields k).name then nameAt (zAb u k) obj else zu
mutual
def Ac.named (u:Un) (regs:Int):Ac -> St
 | .mk k reg obj ex count t e=>.mk (zCF k reg obj) (if (fields k).reg then nameAt regs reg else zu) (stName u k obj) (ex.named regs) count (Ac.zO u regs t) (Ac.zO u regs e)
def Ac.zO (u:Un) (regs:Int):List Ac -> List St
 | []=>[]
 | x :: r=>Ac.named u regs x :: Ac.zO u regs r
end
theorem Ac.zAX (u:Un) (regs:Int) (l:List Ac):Ac.zO u regs l=l.map (Ac.named u regs):=by
 induction l with
 | nil=>rfl
 | cons x r ih=>simp [Ac.zO,ih]
def zCD (s:ByteArray) (must:Bool):Bool:=must&&zGF s || !must&&zW s
def zF9 (k:Int) (reg name:ByteArray) (ex:Ex) (count:Int) (nt ne:Nat):Bool :=
 decide (1 <= k /\ k <= 11)&&zCD reg (fields k).reg&&zCD name (fields k).name&&((fields k).ex&&ex.kind != 0 || !(fields k).ex&&ex.none) &&
 (count==0 || (fields k).count&&decide (0 < count)&&decide (count <= 1000))&&((fields k).thn || nt==0)&&((fields k).els || ne==0)
mutual
def St.form:St -> Bool
 | .mk k reg name ex count t e=>zF9 k reg name ex count t.length e.length&&(!ex.there || ex.zCr)&&St.zA8 t&&St.zA8 e
def St.zA8:List St -> Bool
 | []=>true
 | x :: r=>St.form x&&St.zA8 r
end
mutual
def St.cnt:St -> Nat
 | .mk _ _ _ ex _ t e=>1+(if ex.there then ex.cnt else 0)+St.zY t+St.zY e
def St.zY:List St -> Nat
 | []=>0
 | x :: r=>St.cnt x+St.zY r
end
mutual
def St.deep (d:Nat):St -> Nat
 | .mk _ _ _ ex _ t e=>max (max d (if ex.there then ex.dep else 0)) (max (St.zm (d+1) t) (St.zm (d+1) e))
def St.zm (d:Nat):List St -> Nat
 | []=>0
 | x :: r=>max (St.deep d x) (St.zm d r)
end
theorem zES {regs:Int} {x:Ex} (h:x.may regs=true):x.kind ≠ 0:=by
 cases x with
 | mk k num nm l =>
   intro e
   have e':k=0:=e;subst e';simp [Ex.may,zAE] at h
theorem zDg {k:Int} (h:¬ (1 <= k /\ k <= 11)):fields k=⟨false,false,false,false,false,false⟩:=by
 unfold fields;repeat' (first | rw [if_neg (by omega)])
theorem zIP (u:Un) (regs k reg obj:Int) (ex:Ex) (count:Int) (nt ne:Nat) :
 (zF9 (zCF k reg obj) (if (fields k).reg then nameAt regs reg else zu) (stName u k obj) (ex.named regs) count nt ne&&(!ex.there || ex.may regs))=zBA u regs k reg obj ex count nt ne:=by
 by_cases hk:1 <= k /\ k <= 11
 ·by_cases hz:((fields k).reg=false /\ reg ≠ 0) \/ ((fields k).name=false /\ obj ≠ 0)
  ·have e1:zCF k reg obj=0:=if_pos hz
   have e2:zBA u regs k reg obj ex count nt ne=false:=by
    unfold zBA;rcases hz with ⟨h1,h2⟩ | ⟨h1,h2⟩
    ·have:(reg==0)=false:=by simpa using h2
     simp [h1,this]
    ·have:(obj==0)=false:=by simpa using h2
     simp [h1,this]
   rw [e1,e2];simp [zF9]
  ·have e1:zCF k reg obj=k:=if_neg hz
   rw [e1]
   have hr:zCD (if (fields k).reg then nameAt regs reg else zu) (fields k).reg=(if (fields k).reg then decide (0 <= reg)&&decide (reg < regs) else reg==0):=by
    cases h:(fields k).reg
    ·have:reg=0:=uN fun e=>hz (.inl ⟨h,e⟩)
     simp [zCD,zGt,this]
    ·simp [zCD,zEo]
   have hn:zCD (stName u k obj) (fields k).name=(if (fields k).name then decide (0 <= obj)&&decide (obj < zAb u k) else obj==0):=by
    unfold stName;cases h:(fields k).name
    ·have:obj=0:=uN fun e=>hz (.inr ⟨h,e⟩)
     simp [zCD,zGt,this]
    ·simp [zCD,zEo]
   have hc:(count==0 || (fields k).count&&decide (0 < count)&&decide (count <= 1000))=(if (fields k).count then decide (0 <= count)&&decide (count <= 1000) else count==0):=by
    cases (fields k).count
    ·simp
    ·by_cases h0:count=0
     ·subst h0;simp
     ·have h1:(count==0)=false:=by simpa using h0
      have h2:decide (0 < count)=decide (0 <= count):=by rw [decide_eq_decide];omega
      simp [h1,h2]
   have hx:(((fields k).ex&&(ex.named regs).kind != 0 || !(fields k).ex&&(ex.named regs).none)&&(!ex.there || ex.may regs))=(if (fields k).ex then ex.may regs else ex.none):=by
    rw [Ex.zIo,Ex.zIx];cases (fields k).ex
    ·cases hn:ex.none
     ·simp
     ·have:ex.there=false:=by
       cases ex with
       | mk a b c l =>
         simp only [Ex.none,yR,beq_iff_eq,List.isEmpty_iff] at hn;simp [Ex.there,hn.1.1.1,hn.2]
      simp [this]
    ·cases hm:ex.may regs
     ·cases ht:ex.there
      ·have:ex.kind=0:=by
        cases ex with
        | mk a b c l=>simp [Ex.there] at ht;exact ht.1
       simp [this]
      ·simp
     ·have:=zES hm
      have h1:(ex.kind != 0)=true:=by simpa using this
      simp [h1]
   unfold zF9 zBA;rw [hr,hn,hc,<- hx];have hk1:decide (1 <= k /\ k <= 11)=true:=xZ hk;simp only [hk1,xZ hk.1,xZ hk.2,Bool.true_and];generalize (if (fields k).reg then decide (0 <= reg)&&decide (reg < regs) else reg==0)=A;generalize (if (fields k).name then decide (0 <= obj)&&decide (obj < zAb u k) else obj==0)=B;generalize ((fields k).ex&&(ex.named regs).kind != 0 || !(fields k).ex&&(ex.named regs).none)=C;generalize (if (fields k).count then decide (0 <= count)&&decide (count <= 1000) else count==0)=D;generalize ((fields k).thn || nt==0)=E;generalize ((fields k).els || ne==0)=F;generalize (!ex.there || ex.may regs)=G;cases A <;> cases B <;> cases C <;> cases D <;> cases E <;> cases F <;> cases G <;> rfl
 ·have e2:zBA u regs k reg obj ex count nt ne=false:=by
   unfold zBA
   have:(decide (1 <= k)&&decide (k <= 11))=false:=by
    by_cases h1:1 <= k
    ·have:¬ k <= 11:=fun e=>hk ⟨h1,e⟩
     simp [this]
    ·simp [h1]
   rw [this];simp
  have e1:¬ (1 <= zCF k reg obj /\ zCF k reg obj <= 11):=by
   unfold zCF;split
   ·omega
   ·exact hk
  rw [e2];unfold zF9;rw [xY e1];simp
mutual
theorem Ac.zIQ (u:Un) (regs:Int):(x:Ac) -> (x.named u regs).form=x.may u regs
 | .mk k reg obj ex count t e=>by
   have h1:=Ac.zCi u regs t;have h2:=Ac.zCi u regs e;have hl1:(Ac.zO u regs t).length=t.length:=by rw [Ac.zAX];simp
   have hl2:(Ac.zO u regs e).length=e.length:=by rw [Ac.zAX];simp
   simp only [Ac.named,St.form,Ac.may,hl1,hl2,h1,h2,Ex.zDL,Ex.zE9,zIP]
theorem Ac.zCi (u:Un) (regs:Int):(l:List Ac) -> St.zA8 (Ac.zO u regs l)=Ac.zAC u regs l
 | []=>rfl
 | x :: r=>by
   have h1:=Ac.zIQ u regs x;have h2:=Ac.zCi u regs r;simp only [Ac.zO,St.zA8,Ac.zAC,h1,h2]
end
mutual
theorem Ac.zCs (u:Un) (regs:Int):(x:Ac) -> (x.named u regs).cnt=x.cnt
 | .mk k reg obj ex count t e=>by
   have h1:=Ac.zBj u regs t;have h2:=Ac.zBj u regs e;simp only [Ac.named,St.cnt,Ac.cnt,h1,h2,Ex.zDL,Ex.zCs]
theorem Ac.zBj (u:Un) (regs:Int):(l:List Ac) -> St.zY (Ac.zO u regs l)=Ac.zY l
 | []=>rfl
 | x :: r=>by
   have h1:=Ac.zCs u regs x;have h2:=Ac.zBj u regs r;simp only [Ac.zO,St.zY,Ac.zY,h1,h2]
end
mutual
theorem Ac.zIm (u:Un) (regs:Int) (d:Nat):(x:Ac) -> (x.named u regs).deep d=x.deep d
 | .mk k reg obj ex count t e=>by
   have h1:=Ac.zCg u regs (d+1) t;have h2:=Ac.zCg u regs (d+1) e;simp only [Ac.named,St.deep,Ac.deep,h1,h2,Ex.zDL,Ex.zGS]
theorem Ac.zCg (u:Un) (regs:Int) (d:Nat):(l:List Ac) -> St.zm d (Ac.zO u regs l)=Ac.zm d l
 | []=>rfl
 | x :: r=>by
   have h1:=Ac.zIm u regs d x;have h2:=Ac.zCg u regs d r;simp only [Ac.zO,St.zm,Ac.zm,h1,h2]
end
end Go.Proofs.YtfokdllgnblamaaGreatDoor
