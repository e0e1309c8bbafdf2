/- Layer D: texts joined. -/
import Derived.Test.YtoapgjjepiopbaaGreatDoorD01
set_option linter.all false
set_option maxRecDepth 8000
namespace Go.Proofs.YtoapgjjepiopbaaGreatDoor
open Go.RowKit
abbrev vW:=@List.mem_cons_self
abbrev vG:=@List.mem_cons_of_mem
abbrev uP:=@Classical.byContradiction
abbrev uO:=@List.map_cons
abbrev uK:=@decide_eq_false
abbrev uC:=@decide_eq_true
abbrev uB:=@zB.zAb
abbrev xU:=@List.mem_cons
abbrev xO:=@List.drop_length
abbrev yU:=@List.drop_zero
abbrev yS:=@Bool.and_eq_true
abbrev yK:=@zB.zH
abbrev yI:=@List.getElem_mem
abbrev yB:=@Keeps.refl
abbrev yA:=@Go.Lib.hid
theorem J43(P:Prop) (h:P:=by
 go_wp2_with fail
 go_ret
 exact⟨by rw[<-hd];rfl,K1.out.zC HK.out⟩):P:=h
theorem J80(P:Prop) (h:P:=by
 obtain⟨css,h0,h1⟩:=h;exact⟨css,h0.keeps hk hS,λi y e=>(h1 i y e).keeps hk hS⟩):P:=h
theorem J96(P:Prop) (h:P:=by
 go_roundw
 case rel=>exact⟨i+1,n+m,by omega,by go_num,by go_num,by show _=_;have:=HD.out;omega,HK.out.zC G1.out⟩
 case measure=>simp[intOf];omega):P:=h
theorem J169(P:Prop)(h:P:=by rw[hb1];exact yK (yG w _)):P:=h
theorem J170(P:Prop)(h:P:=by simp[Value.ownBlock] at e):P:=h
theorem J239(P:Prop)(h:P:=by simpa [Value.ownBlock] using e):P:=h
def zl(w:World)(v:Value)(n:Nat)(cs:List Value):Prop:=
 ∃ad cap,v=.slice ad n cap/\(n≠0->∃g o,ad=some ⟨g,o,none⟩/\∀j u,cs[j]?=some u->w.cell? ⟨g,o+j,none⟩=some u)
def zn(w:World)(base e size:Nat)(v:Value)(n:Nat)(xs:List Value)(ad:Option Addr)(cap:Nat)(w':World):Prop:=
 w'.ownsRow base e size (.slice ad n cap) n xs/\w.grownBy w' v.ownBlock/\∀kb,(Value.slice ad n cap).ownBlock=some kb->v.ownBlock=some kb\/kb=w.heap.size
section
variable {P:Program} (w:World)
theorem zGL(base:Nat)(t ty e:TypeId)(i:TypeInfo)(z:Value)(size bytes:Nat)(ht:P.underlying t=some (.slice e))(hi:P.info? e=some i)(hz:i.zero=some z)
 (hsize:i.size=size) (hby:i.bytes=bytes) (hzs:z.cells.size=size) (hsz:0<size)
 (v:Value) (n:Nat) (xs:List Value) (hown:w.ownsRow base e size v n xs)
 (s:Value) (m:Nat) (news:List Value) (hs:zl w s m news) (hl:news.length=m*size) (h1:∀u∈news,u.oneCell'=true)
 (h63:n+m<=maxLen) (hbytes:(n+m)*bytes<=140737488355328) (hbase:base<=w.heap.size):
 ∃ad cap w',(Builtin.append_ #[t,t] ty #[v,s]).run P w=.ok (.slice ad (n+m) cap) w'/\zn w base e size v (n+m) (xs++news) ad cap w':=by
 obtain⟨ad,c,rfl,h2⟩:=hs;by_cases hm:m=0
 ·subst hm
  obtain rfl:news=[]:=xW (by simpa using hl);have hsame:w.ownsRow base e size v (n+0) (xs++[]):=by simpa using hown
  have hrun:(Builtin.append_ #[t,t] ty #[v,.slice ad 0 c]).run P w=.ok v w:=by
   rcases hown.2 with⟨rfl,rfl⟩|⟨g,cap,cur,rfl,_,_,hnc,_⟩
   ·cases ad <;> simp[Builtin.append_,run_underlying ht,sizeOf,typeInfo,hi,Builtin.lenOf,Builtin.firstCells,loadCells,loadCellsFrom]
   ·cases ad <;> simp[Builtin.append_,run_underlying ht,sizeOf,typeInfo,hi,Builtin.lenOf,Builtin.firstCells,hnc,storeCells,loadCells,loadCellsFrom]
  rcases hown.2 with⟨rfl,rfl⟩|⟨g,cap,cur,rfl,_,_,hnc,_⟩
  ·exact⟨none,0,w,hrun,hsame,⟨rfl,rfl,rfl,yT _,λk hk _=>rfl⟩,λkb e=>by exact J170 _⟩
  ·exact⟨some ⟨g,0,none⟩,cap,w,by simpa using hrun,hsame,⟨rfl,rfl,rfl,yT _,λk hk _=>rfl⟩,λkb e=>.inl (J239 _)⟩
 ·obtain⟨g,o,rfl,hc⟩:=h2 hm
  obtain⟨v',w',hr,r1,r2,r3,r4⟩:=run_append_own_at (P:=P) w base t ty e i z size bytes ht hi hz hsize hby hzs hsz v n xs hown ⟨g,o,none⟩ m c news hl (λj u hj=>by rw[Addr.add_lit];exact hc j u hj) h1 h63 hbytes hbase;obtain⟨g',cap,rfl,_,_⟩:=r1.form (by omega);refine⟨_,cap,w',hr,r1,r2,λkb e=>?_⟩
  rcases r4 with r4|r4
  ·exact .inl (by rw[<-r4];exact e)
  ·rw[r4] at e;cases e;exact .inr rfl
variable {ops:Array Oper} {o:Oper} {a:Act} {Q:Exit->Act->World->Prop}
theorem zGy{K:Act->World->Prop}(s x:Operand)(t:TypeId)
 (ho:o.op=.call { callee:=.builtin .append,args:=#[s,x],argTypes:=#[t,t] })
 (base:Nat) (e:TypeId) (i:TypeInfo) (z:Value) (size bytes:Nat) (ht:P.underlying t=some (.slice e)) (hi:P.info? e=some i) (hz:i.zero=some z)
 (hsize:i.size=size) (hby:i.bytes=bytes) (hzs:z.cells.size=size) (hsz:0<size)
 (v:Value) (n:Nat) (xs:List Value) (hs:a.eval s=v) (hown:w.ownsRow base e size v n xs)
 (sv:Value) (m:Nat) (news:List Value) (hx:a.eval x=sv) (hsrc:zl w sv m news) (hl:news.length=m*size) (h1:∀u∈news,u.oneCell'=true)
 (h63:n+m<=maxLen) (hbytes:(n+m)*bytes<=140737488355328) (hbase:base<=w.heap.size)
 (h:∀ad cap w',zn w base e size v (n+m) (xs++news) ad cap w'->K (a.put o.dst (.slice ad (n+m) cap)) w'):o.wp P a w K Q:=by
 obtain⟨ad,cap,w',hr,h2⟩:=zGL (P:=P) w base t o.type e i z size bytes ht hi hz hsize hby hzs hsz v n xs hown sv m news hsrc hl h1 h63 hbytes hbase;unfold Oper.wp execOp;simp only[ho,resolve,invoke,builtin,Sem.run_bind,Sem.run_pure,Result.andThen_ok,List.map_toArray,uO,List.map_nil,hs,hx,hr];exact h ad cap w' h2
theorem zI{rest:List Oper}(hgd:o.guard=none)(s x:Operand)(t:TypeId)
 (ho:o.op=.call { callee:=.builtin .append,args:=#[s,x],argTypes:=#[t,t] })
 (base:Nat) (e:TypeId) (i:TypeInfo) (z:Value) (size bytes:Nat) (ht:P.underlying t=some (.slice e)) (hi:P.info? e=some i) (hz:i.zero=some z)
 (hsize:i.size=size) (hby:i.bytes=bytes) (hzs:z.cells.size=size) (hsz:0<size)
 (v:Value) (n:Nat) (xs:List Value) (hs:a.eval s=v) (hown:w.ownsRow base e size v n xs)
 (sv:Value) (m:Nat) (news:List Value) (hx:a.eval x=sv) (hsrc:zl w sv m news) (hl:news.length=m*size) (h1:∀u∈news,u.oneCell'=true)
 (h63:n+m<=maxLen) (hbytes:(n+m)*bytes<=140737488355328) (hbase:base<=w.heap.size)
 (h:∀ad cap w',zn w base e size v (n+m) (xs++news) ad cap w'->wpList P ops Q rest (a.put o.dst (.slice ad (n+m) cap)) w'):wpList P ops Q (o :: rest) a w:=
 wpList_plain hgd λ_ hK=>zGy w s x t ho base e i z size bytes ht hi hz hsize hby hzs hsz v n xs hs hown sv m news hx hsrc hl h1 h63 hbytes hbase λad cap w' h2=>hK _ _ (h ad cap w' h2)
end
theorem Keeps.zC{a b c:World}(h:Keeps zA a b)(h':Keeps zA b c):Keeps zA a c:=h.trans h' (λ_ _ h=>h)
theorem zn.keeps{w w':World}{base e size n cap:Nat}{v:Value}{xs:List Value}{ad:Option Addr}(h:zn w base e size v n xs ad cap w'){S:Nat->Prop}{w0:World}(h0:Keeps S w0 w)(hv:∀k,v.ownBlock=some k->k<w0.heap.size->S k):Keeps S w0 w':=
 h0.grown h.2.1 hv
def zAV(w:World)(B:Nat)(v:Value)(n:Nat)(cs:List Value):Prop:=
 ∃ad cap,v=.slice ad n cap/\cap<=maxLen/\(ad=none->cap=0)/\(n≠0->∃g,ad=some ⟨g,0,none⟩/\B<=g/\zB w g cs)
theorem zAV.keeps{S:Nat->Prop}{w w':World}{B:Nat}{v:Value}{n:Nat}{cs:List Value}(h:zAV w B v n cs)(hk:Keeps S w w')(hS:∀k,B<=k->¬S k):zAV w' B v n cs:=by
 obtain⟨ad,cap,e,e1,e2,h1⟩:=h;refine⟨ad,cap,e,e1,e2,λhn=>?_⟩
 obtain⟨g,h2,h3,h4⟩:=h1 hn;exact⟨g,h2,h3,h4.keeps hk (hS g h3)⟩
theorem zAV.of{w:World}{base e size n B:Nat}{v:Value}{xs:List Value}(h:w.ownsRow base e size v n xs)(hb:∀k,v.ownBlock=some k->B<=k):zAV w B v n xs:=by
 rcases h.2 with⟨rfl,rfl⟩|⟨g,cap,cur,rfl,_,hg,_,hm,_⟩
 ·exact⟨none,0,rfl,by unfold maxLen;omega,λ_=>rfl,λh=>absurd rfl h⟩
 ·exact⟨_,cap,rfl,hm,λh=>(by cases h),λ_=>⟨g,rfl,hb g rfl,uB h⟩⟩
theorem zAV.src{w:World}{B n:Nat}{v:Value}{cs:List Value}(h:zAV w B v n cs):zl w v n cs:=by
 obtain⟨ad,cap,e,_,_,h1⟩:=h;refine⟨ad,cap,e,λhn=>?_⟩
 obtain⟨g,h2,h3,h4⟩:=h1 hn;exact⟨g,0,h2,h4.rng⟩
theorem zl.keeps{S:Nat->Prop}{w w':World}{v:Value}{n:Nat}{cs:List Value}(h:zl w v n cs)(hk:Keeps S w w')(hS:∀k,v.ownBlock=some k->¬S k):zl w' v n cs:=by
 obtain⟨ad,cap,rfl,h1⟩:=h;refine⟨ad,cap,rfl,λhn=>?_⟩
 obtain⟨g,o,e,h2⟩:=h1 hn;refine⟨g,o,e,λj u hj=>hk.cell (p:=⟨g,o+j,none⟩) (hS g (by rw[e];rfl)) (h2 j u hj)⟩
theorem Ex.ind{P:Ex->Prop}(h:∀k n s l,(∀y,y∈l->P y)->P (.mk k n s l)):(x:Ex)->P x
 | .mk k n s l=>h k n s l (λy hy=>Ex.ind h y)
termination_by x=>SizeOf.sizeOf x
decreasing_by
 have:=List.sizeOf_lt_of_mem hy
 simp only[Ex.mk.sizeOf_spec];omega
theorem Ex.zAe(l:List Ex):l.length<=Ex.zT l:=by
 induction l with
 | nil=>simp
 | cons x r ih=>cases x;simp only[xM,Ex.zT,Ex.cnt];omega
theorem Ex.zCP{l:List Ex}{y:Ex}(h:y∈l):y.cnt<=Ex.zT l:=by
 induction l with
 | nil=>cases h
 | cons x r ih =>
   simp only[Ex.zT];rcases xU.1 h with e|e
   ·subst e;omega
   ·have:=ih e;omega
theorem Ex.zH8:(x:Ex)->x.dep<=x.cnt:=by
 refine Ex.ind (λk n s l ih=>?_)
 simp only[Ex.dep,Ex.cnt]
 have:Ex.zCr l<=Ex.zT l:=by
  induction l with
  | nil=>simp[Ex.zCr]
  | cons x r ih2 =>
    have h1:=ih x (vW ..);have h2:=ih2 (λy hy=>ih y (vG _ hy));simp only[Ex.zCr,Ex.zT];omega
 omega
theorem drop_at{α:Type}{l:List α}{i:Nat}(h:i<l.length):l.drop i=l[i] :: l.drop (i+1):=List.drop_eq_getElem_cons h
theorem zBa.four{w:World}{F:Nat->Prop}{n i:Nat}{ad:Option Addr}{css:Nat->List Value}{a b c d:Value}(h:zBa w F 4 n ad css)(hi:i<n)(hc:css i=[a,b,c,d]):
 ∃g o,ad=some ⟨g,o,none⟩/\F g/\w.cell? ⟨g,o+i*4,none⟩=some a/\w.cell? ⟨g,o+i*4+1,none⟩=some b/\w.cell? ⟨g,o+i*4+2,none⟩=some c/\w.cell? ⟨g,o+i*4+3,none⟩=some d:=by
 obtain⟨g,o,e,hg,hl,hs⟩:=h i hi;rw[hc] at hs;exact⟨g,o,e,hg,hs 0 _ rfl,hs 1 _ rfl,hs 2 _ rfl,hs 3 _ rfl⟩
def zR(w:World)(F:Nat->Prop)(l:List Ex)(ad:Option Addr):Prop:=∃css,zBa w F 4 l.length ad css/\∀i y,l[i]?=some y->zBL w F y (css i)
theorem zR.keeps{S F:Nat->Prop}{w w':World}{l:List Ex}{ad:Option Addr}(h:zR w F l ad)(hk:Keeps S w w')(hS:∀k,F k->¬S k):zR w' F l ad:=by
 exact J80 _
theorem zR.mono{F F':Nat->Prop}{w:World}{l:List Ex}{ad:Option Addr}(h:zR w F l ad)(hF:∀k,F k->F' k):zR w F' l ad:=by
 obtain⟨css,h0,h1⟩:=h;exact⟨css,h0.mono hF,λi y e=>(h1 i y e).mono hF⟩
theorem zR.at{w:World}{F:Nat->Prop}{l:List Ex}{ad:Option Addr}(h:zR w F l ad){i:Nat}(hi:i<l.length):
 ∃ g o a c,ad=some ⟨g,o,none⟩/\F g/\w.cell? ⟨g,o+i*4,none⟩=some (.int .i64 l[i].kind)/\w.cell? ⟨g,o+i*4+1,none⟩=some (.int .i64 l[i].num)/\w.cell? ⟨g,o+i*4+2,none⟩=some (.string l[i].nm) ∧
   w.cell? ⟨g,o+i*4+3,none⟩=some (.slice a l[i].args.length c)/\zR w F l[i].args a:=by
 obtain⟨css,h0,h1⟩:=h;obtain⟨a,c,css',e,h2,h3⟩:=(h1 i l[i] (yL hi)).show
 obtain⟨g,o,e1,hg,c0,c1,c2,c3⟩:=h0.four hi e;exact⟨g,o,a,c,e1,hg,c0,c1,c2,c3,css',h2,h3⟩
def exV(x:Ex)(ad:Option Addr)(cap:Nat):Value:=.agg #[x.kind,x.num,x.nm,.slice ad x.args.length cap]
theorem zBL.exs{w:World}{F:Nat->Prop}{x:Ex}{cs:List Value}(h:zBL w F x cs):∃ad cap,cs=[.int .i64 x.kind,.int .i64 x.num,.string x.nm,.slice ad x.args.length cap]/\zR w F x.args ad:=by
 obtain⟨ad,cap,css,e,h1,h2⟩:=h.show
 exact⟨ad,cap,e,css,h1,h2⟩
theorem zBL.zKm{w:World}{F:Nat->Prop}{x:Ex}{ad:Option Addr}{cap:Nat}(h:zR w F x.args ad):zBL w F x [.int .i64 x.kind,.int .i64 x.num,.string x.nm,.slice ad x.args.length cap]:=by
 obtain⟨css,h1,h2⟩:=h;cases x;exact .mk _ _ _ _ ad cap css h1 h2
theorem zEG:∀(x:Ex)(w:World)(F:Nat->Prop)(ad:Option Addr)(cap:Nat),zR w F x.args ad->x.cnt<1000000000 →
 Calls Tryz.prog 98 #[exV x ad cap] w λe w'=>e=.returned x.cnt/\Keeps zA w w':=by
 refine Ex.ind (λk num nm l ih w F ad cap h hb=>?_)
 have HL:Hid (zR w F l ad):=h;have IH:=yA ih;have hl:=Ex.zAe l;have hcn:Ex.cnt (.mk k num nm l)=1+Ex.zT l:=by simp[Ex.cnt]
 rw[hcn] at hb ⊢;clear h ih hcn;obtain⟨tot,ht⟩:=eX (Ex.zT l);have HT:=yA ht;rw[<-ht] at hb hl ⊢;clear ht;show Calls _ _ #[.agg #[k,num,nm,.slice ad l.length cap]] _ _
 go_enter Tryz.func98,Tryz.ntmps98
 go_upto_region 1 with fail
 obtain⟨b1,hb1⟩:=eX w.heap.size;have hr1:zB (w.alloc (.cells #[k,num,nm,.slice ad l.length cap] 144)) b1 [.int .i64 k,.int .i64 num,.string nm,.slice ad l.length cap]:=J169 _;have hk1:Keeps zA w (w.alloc (.cells #[k,num,nm,.slice ad l.length cap] 144)):=(yB _ _).alloc _;rw[<-hb1];generalize w.alloc (.cells #[k,num,nm,.slice ad l.length cap] 144)=w1 at hr1 hk1 ⊢;have R1:=yA hr1;have K1:=yA hk1;have c3:=hr1.cell (k:=3) (v:=.slice ad l.length cap) rfl;clear hr1 hk1 hb1;go_wp2_with fail
 go_loopw [3,4] (λnv iv wr=>∃i n:Nat,i<=l.length/\nv=.int .i64 n/\iv=.int .i64 i/\Hid (n+Ex.zT (l.drop i)=1+tot)/\Hid (Keeps zA w1 wr)) (λ_ iv _=>l.length-(intOf iv).toNat)
 case atStart=>exact⟨0,1,yF _,rfl,rfl,by show _=_;rw[yU,HT.out],yB _ _⟩
 case round =>
  obtain⟨i,n,hi,rfl,rfl,HN,HK⟩:=hrel;have c3':=(R1.out.keeps HK.out (λh=>h)).cell (k:=3) (v:=.slice ad l.length cap) rfl;clear c3;by_cases hlt:i<l.length
  ·have i1:(0:Int)<=i:=by omega
   have i2:(i:Int)<l.length:=by omega
   have hd:=HN.out;rw[drop_at hlt,Ex.zT] at hd;obtain⟨g,o,a,c,e1,hg,d0,d1,d2,d3,hx⟩:=(HL.out.keeps (K1.out.zC HK.out) (λ_ _ h=>h)).at hlt;subst e1;have HC:Hid (∀W,Keeps zA wr W->Calls Tryz.prog 98 #[.agg #[.int .i64 l[i].kind,.int .i64 l[i].num,.string l[i].nm,.slice a l[i].args.length c]] W λe w'=>e=.returned (.int .i64 l[i].cnt)/\Keeps zA W w'):=λW hk=>IH.out _ (yI hlt) W F a c (hx.keeps hk (λ_ _ h=>h)) (by omega)
   obtain⟨m,hm⟩:=eX (l[i].cnt);rw[<-hm] at HC hd;have HD:=yA hd;have b1:n+m<1000000001:=by omega
   clear hx hm hd;generalize l[i].kind=x0 at d0 HC;generalize l[i].num=x1 at d1 HC;generalize l[i].nm=x2 at d2 HC;generalize l[i].args.length=x3 at d3 HC;go_wp2_with (go_at_call 98;refine(HC.out _ (yB _ _)).mono ?_;rintro e w2 ⟨rfl,g1⟩;have G1:=yA g1;clear g1)
   exact J96 _
  ·obtain rfl:i=l.length:=by omega
   have hd:=HN.out;rw[xO] at hd;simp only[Ex.zT] at hd;exact J43 _
end Go.Proofs.YtoapgjjepiopbaaGreatDoor
namespace Go.Proofs.YtoapgjjepiopbaaGreatDoor
def xNm:ByteArray:=⟨#[120]⟩
def zw:ByteArray:=⟨#[]⟩
def zHB(s:ByteArray):Bool:=s.data.toList==[120]
def nameAt(n i:Int):ByteArray:=if 0<=i/\i<n then xNm else zw
theorem zFY(n i:Int):zHB (nameAt n i)=(decide (0<=i)&&decide (i<n)):=by
 unfold nameAt;split
 ·rename_i h;simp[zHB,xNm,h.1,h.2]
 ·rename_i h
  by_cases h0:0<=i
  ·have:¬i<n:=λe=>h ⟨h0,e⟩
   simp[zHB,zw,this]
  ·simp[zHB,zw,h0]
theorem zHo:ze zw=true:=rfl
theorem zPn:zHB zw=false:=rfl
mutual
def Ex.named(regs:Int):Ex->Ex
 | .mk k num nm l=>.mk k (if k=2 then 0 else num) (if k=2 then (if ze nm then nameAt regs num else zw) else nm) (Ex.zS regs l)
def Ex.zS(regs:Int):List Ex->List Ex
 | []=>[]
 | x :: r=>Ex.named regs x :: Ex.zS regs r
end
theorem Ex.zAY(regs:Int)(l:List Ex):Ex.zS regs l=l.map (Ex.named regs):=by
 induction l with
 | nil=>rfl
 | cons x r ih=>simp[Ex.zS,ih]
def zAv(k num:Int)(nm:ByteArray)(n:Nat):Bool:=
 if k=1 then decide (0<=num)&&decide (num<=2147483647)&&ze nm&&n==0
 else if k=2 then zHB nm&&num==0&&n==0
 else decide (3<=k)&&decide (k<=17)&&n==(if k=3\/k=4 then 1 else 2)&&num==0&&ze nm
mutual
def Ex.zDG:Ex->Bool
 | .mk k num nm l=>zAv k num nm l.length&&Ex.zDL l
def Ex.zDL:List Ex->Bool
 | []=>true
 | x :: r=>Ex.zDG x&&Ex.zDL r
end
theorem zJz(k num regs:Int)(nm:ByteArray)(n:Nat):
 zAv k (if k=2 then 0 else num) (if k=2 then (if ze nm then nameAt regs num else zw) else nm) n=zAE k num nm n regs:=by
 unfold zAv zAE;by_cases h1:k=1
 ·subst h1;simp
 ·by_cases h2:k=2
  ·subst h2
   by_cases h3:ze nm=true
   ·simp[h3,zFY]
   ·simp[h3,zPn]
  ·simp only[h1,h2,if_false]
   cases decide (3<=k) <;> cases decide (k<=17) <;> cases (num==0) <;> cases ze nm <;> simp
mutual
theorem Ex.zFi(regs:Int):(x:Ex)->Ex.zDG (x.named regs)=x.may regs
 | .mk k num nm l=>by
   have h:=Ex.zEu regs l;have hl:(Ex.zS regs l).length=l.length:=by rw[Ex.zAY];simp
   simp only[Ex.named,Ex.zDG,Ex.may,hl,h,zJz]
theorem Ex.zEu(regs:Int):(l:List Ex)->Ex.zDL (Ex.zS regs l)=Ex.zAC regs l
 | []=>rfl
 | x :: r=>by
   have h1:=Ex.zFi regs x;have h2:=Ex.zEu regs r;simp only[Ex.zS,Ex.zDL,Ex.zAC,h1,h2]
end
mutual
theorem Ex.zDK(regs:Int):(x:Ex)->(x.named regs).cnt=x.cnt
 | .mk k num nm l=>by
   have h:=Ex.zBs regs l;simp only[Ex.named,Ex.cnt,h]
theorem Ex.zBs(regs:Int):(l:List Ex)->Ex.zT (Ex.zS regs l)=Ex.zT l
 | []=>rfl
 | x :: r=>by
   have h1:=Ex.zDK regs x;have h2:=Ex.zBs regs r;simp only[Ex.zS,Ex.zT,h1,h2]
end
mutual
theorem Ex.zHW(regs:Int):(x:Ex)->(x.named regs).dep=x.dep
 | .mk k num nm l=>by
   have h:=Ex.zGf regs l;simp only[Ex.named,Ex.dep,h]
theorem Ex.zGf(regs:Int):(l:List Ex)->Ex.zCr (Ex.zS regs l)=Ex.zCr l
 | []=>rfl
 | x :: r=>by
   have h1:=Ex.zHW regs x;have h2:=Ex.zGf regs r;simp only[Ex.zS,Ex.zCr,h1,h2]
end
theorem Ex.zDi(regs:Int)(x:Ex):(x.named regs).there=x.there:=by
 cases x with
 | mk k num nm l =>
   simp only[Ex.named,Ex.there,Ex.zAY];cases l <;> rfl
theorem Ex.zJ7(regs:Int)(x:Ex):(x.named regs).none=x.none:=by
 cases x with
 | mk k num nm l =>
   simp only[Ex.named,Ex.none,Ex.zAY];by_cases h:k=0
   ·subst h;cases l <;> simp
   ·have:(k==0)=false:=by simpa using h
    simp[this]
theorem Ex.zKO(regs:Int)(x:Ex):(x.named regs).kind=x.kind:=by cases x;rfl
def zCY(k reg obj:Int):Int:=if ((fields k).reg=false/\reg≠0)\/((fields k).name=false/\obj≠0) then 0 else k
def stName(u:Un)(k obj:Int):ByteArray:=
 if (fields k).name then nameAt (zBJ u k) obj else zw
mutual
def Ac.named(u:Un)(regs:Int):Ac->St
 | .mk k reg obj ex count t e=>.mk (zCY k reg obj) (if (fields k).reg then nameAt regs reg else zw) (stName u k obj) (ex.named regs) count (Ac.zS u regs t) (Ac.zS u regs e)
def Ac.zS(u:Un)(regs:Int):List Ac->List St
 | []=>[]
 | x :: r=>Ac.named u regs x :: Ac.zS u regs r
end
theorem Ac.zAY(u:Un)(regs:Int)(l:List Ac):Ac.zS u regs l=l.map (Ac.named u regs):=by
 induction l with
 | nil=>rfl
 | cons x r ih=>simp[Ac.zS,ih]
def zCV(s:ByteArray)(must:Bool):Bool:=must&&zHB s || !must&&ze s
def zG5(k:Int)(reg name:ByteArray)(ex:Ex)(count:Int)(nt ne:Nat):Bool:=
 decide (1<=k/\k<=11)&&zCV reg (fields k).reg&&zCV name (fields k).name&&((fields k).ex&&ex.kind != 0 || !(fields k).ex&&ex.none) &&
 (count==0 || (fields k).count&&decide (0<count)&&decide (count<=1000))&&((fields k).thn || nt==0)&&((fields k).els || ne==0)
mutual
def St.form:St->Bool
 | .mk k reg name ex count t e=>zG5 k reg name ex count t.length e.length&&(!ex.there || ex.zDG)&&St.zA9 t&&St.zA9 e
def St.zA9:List St->Bool
 | []=>true
 | x :: r=>St.form x&&St.zA9 r
end
mutual
def St.cnt:St->Nat
 | .mk _ _ _ ex _ t e=>1+(if ex.there then ex.cnt else 0)+St.zT t+St.zT e
def St.zT:List St->Nat
 | []=>0
 | x :: r=>St.cnt x+St.zT r
end
mutual
def St.deep(d:Nat):St->Nat
 | .mk _ _ _ ex _ t e=>max (max d (if ex.there then ex.dep else 0)) (max (St.zu (d+1) t) (St.zu (d+1) e))
def St.zu(d:Nat):List St->Nat
 | []=>0
 | x :: r=>max (St.deep d x) (St.zu d r)
end
theorem zBU{regs:Int}{x:Ex}(h:x.may regs=true):x.kind≠0:=by
 cases x with
 | mk k num nm l =>
   intro e
   have e':k=0:=e;subst e';simp[Ex.may,zAE] at h
theorem zDt{k:Int}(h:¬(1<=k/\k<=11)):fields k=⟨false,false,false,false,false,false⟩:=by
 unfold fields;repeat' (first|rw[if_neg (by omega)])
theorem zKB(u:Un)(regs k reg obj:Int)(ex:Ex)(count:Int)(nt ne:Nat):
 (zG5 (zCY k reg obj) (if (fields k).reg then nameAt regs reg else zw) (stName u k obj) (ex.named regs) count nt ne&&(!ex.there || ex.may regs))=zBH u regs k reg obj ex count nt ne:=by
 by_cases hk:1<=k/\k<=11
 ·by_cases hz:((fields k).reg=false/\reg≠0)\/((fields k).name=false/\obj≠0)
  ·have e1:zCY k reg obj=0:=if_pos hz
   have e2:zBH u regs k reg obj ex count nt ne=false:=by
    unfold zBH;rcases hz with⟨h1,h2⟩|⟨h1,h2⟩
    ·have:(reg==0)=false:=by simpa using h2
     simp[h1,this]
    ·have:(obj==0)=false:=by simpa using h2
     simp[h1,this]
   rw[e1,e2];simp[zG5]
  ·have e1:zCY k reg obj=k:=if_neg hz
   rw[e1]
   have hr:zCV (if (fields k).reg then nameAt regs reg else zw) (fields k).reg=(if (fields k).reg then decide (0<=reg)&&decide (reg<regs) else reg==0):=by
    cases h:(fields k).reg
    ·have:reg=0:=uP λe=>hz (.inl ⟨h,e⟩)
     simp[zCV,zHo,this]
    ·simp[zCV,zFY]
   have hn:zCV (stName u k obj) (fields k).name=(if (fields k).name then decide (0<=obj)&&decide (obj<zBJ u k) else obj==0):=by
    unfold stName;cases h:(fields k).name
    ·have:obj=0:=uP λe=>hz (.inr ⟨h,e⟩)
     simp[zCV,zHo,this]
    ·simp[zCV,zFY]
   have hc:(count==0 || (fields k).count&&decide (0<count)&&decide (count<=1000))=(if (fields k).count then decide (0<=count)&&decide (count<=1000) else count==0):=by
    cases (fields k).count
    ·simp
    ·by_cases h0:count=0
     ·subst h0;simp
     ·have h1:(count==0)=false:=by simpa using h0
      have h2:decide (0<count)=decide (0<=count):=by rw[decide_eq_decide];omega
      simp[h1,h2]
   have hx:(((fields k).ex&&(ex.named regs).kind != 0 || !(fields k).ex&&(ex.named regs).none)&&(!ex.there || ex.may regs))=(if (fields k).ex then ex.may regs else ex.none):=by
    rw[Ex.zKO,Ex.zJ7];cases (fields k).ex
    ·cases hn:ex.none
     ·simp
     ·have:ex.there=false:=by
       cases ex with
       | mk a b c l =>
         simp only[Ex.none,yS,beq_iff_eq,List.isEmpty_iff] at hn;simp[Ex.there,hn.1.1.1,hn.2]
      simp[this]
    ·cases hm:ex.may regs
     ·cases ht:ex.there
      ·have:ex.kind=0:=by
        cases ex with
        | mk a b c l=>simp[Ex.there] at ht;exact ht.1
       simp[this]
      ·simp
     ·have:=zBU hm
      have h1:(ex.kind != 0)=true:=by simpa using this
      simp[h1]
   unfold zG5 zBH;rw[hr,hn,hc,<-hx];have hk1:decide (1<=k/\k<=11)=true:=uC hk;simp only[hk1,uC hk.1,uC hk.2,Bool.true_and];generalize (if (fields k).reg then decide (0<=reg)&&decide (reg<regs) else reg==0)=A;generalize (if (fields k).name then decide (0<=obj)&&decide (obj<zBJ u k) else obj==0)=B;generalize ((fields k).ex&&(ex.named regs).kind != 0 || !(fields k).ex&&(ex.named regs).none)=C;generalize (if (fields k).count then decide (0<=count)&&decide (count<=1000) else count==0)=D;generalize ((fields k).thn || nt==0)=E;generalize ((fields k).els || ne==0)=F;generalize (!ex.there || ex.may regs)=G;cases A <;> cases B <;> cases C <;> cases D <;> cases E <;> cases F <;> cases G <;> rfl
 ·have e2:zBH u regs k reg obj ex count nt ne=false:=by
   unfold zBH
   have:(decide (1<=k)&&decide (k<=11))=false:=by
    by_cases h1:1<=k
    ·have:¬k<=11:=λe=>hk ⟨h1,e⟩
     simp[this]
    ·simp[h1]
   rw[this];simp
  have e1:¬(1<=zCY k reg obj/\zCY k reg obj<=11):=by
   unfold zCY;split
   ·omega
   ·exact hk
  rw[e2];unfold zG5;rw[uK e1];simp
mutual
theorem Ac.zKa(u:Un)(regs:Int):(x:Ac)->(x.named u regs).form=x.may u regs
 | .mk k reg obj ex count t e=>by
   have h1:=Ac.zCz u regs t;have h2:=Ac.zCz u regs e;have hl1:(Ac.zS u regs t).length=t.length:=by rw[Ac.zAY];simp
   have hl2:(Ac.zS u regs e).length=e.length:=by rw[Ac.zAY];simp
   simp only[Ac.named,St.form,Ac.may,hl1,hl2,h1,h2,Ex.zDi,Ex.zFi,zKB]
theorem Ac.zCz(u:Un)(regs:Int):(l:List Ac)->St.zA9 (Ac.zS u regs l)=Ac.zAC u regs l
 | []=>rfl
 | x :: r=>by
   have h1:=Ac.zKa u regs x;have h2:=Ac.zCz u regs r;simp only[Ac.zS,St.zA9,Ac.zAC,h1,h2]
end
mutual
theorem Ac.zDK(u:Un)(regs:Int):(x:Ac)->(x.named u regs).cnt=x.cnt
 | .mk k reg obj ex count t e=>by
   have h1:=Ac.zBs u regs t;have h2:=Ac.zBs u regs e;simp only[Ac.named,St.cnt,Ac.cnt,h1,h2,Ex.zDi,Ex.zDK]
theorem Ac.zBs(u:Un)(regs:Int):(l:List Ac)->St.zT (Ac.zS u regs l)=Ac.zT l
 | []=>rfl
 | x :: r=>by
   have h1:=Ac.zDK u regs x;have h2:=Ac.zBs u regs r;simp only[Ac.zS,St.zT,Ac.zT,h1,h2]
end
mutual
theorem Ac.zKg(u:Un)(regs:Int)(d:Nat):(x:Ac)->(x.named u regs).deep d=x.deep d
 | .mk k reg obj ex count t e=>by
   have h1:=Ac.zCy u regs (d+1) t;have h2:=Ac.zCy u regs (d+1) e;simp only[Ac.named,St.deep,Ac.deep,h1,h2,Ex.zDi,Ex.zHW]
theorem Ac.zCy(u:Un)(regs:Int)(d:Nat):(l:List Ac)->St.zu d (Ac.zS u regs l)=Ac.zu d l
 | []=>rfl
 | x :: r=>by
   have h1:=Ac.zKg u regs d x;have h2:=Ac.zCy u regs d r;simp only[Ac.zS,St.zu,Ac.zu,h1,h2]
end
