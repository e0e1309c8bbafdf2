/- Layer D: texts joined. -/
import Derived.Test.YtoapgjjepiopbaaGreatDoorD27
set_option linter.all false
set_option maxHeartbeats 4000000
set_option maxRecDepth 8000
namespace Go.Proofs.YtoapgjjepiopbaaGreatDoor
open Go.RowKit
abbrev yd:=@zAm.keeps
abbrev kK:=@Go.Proofs.Tryz.underlying46
abbrev vS:=@zR.keeps
theorem J61(P:Prop) (h:P:=by
 go_wp2_with fail
 go_ret
 exact⟨by rw[HRES.out];simp[zF0,w64],K02.out.drewN _⟩):P:=h
theorem J68(P:Prop) (h:P:=by
 clear hr hl;go_enter Tryz.func107,Tryz.ntmps107
 go_wp2_with fail
 refine yY 1 ?_
 rw[yQ];go_upto_region 7 with fail
 go_quiet (fail)
 go_wp2_with fail
 go_ret
 exact⟨rfl,(((zF w).alloc _).alloc _).drewN _⟩):P:=h
theorem J75(P:Prop) (h:P:=by
 obtain⟨T',H',h1,h2,h3⟩:=h;exact⟨T',H',h1,⟨h2.1,λk y e=>(h2.2 k y e).imp (λh=>h) (λh=>⟨yX hk.size h.1,h.2⟩)⟩,(hk.mono (λ_ _ h=>h.elim)).trans h3 (λ_ _ h=>h)⟩):P:=h
theorem J232(P:Prop)(h:P:=by have e':q=b2:=e;have:=N.out;omega):P:=h
theorem zJK{α:Type}{sz:Nat}:∀(l:List (List α)),(∀ds,ds∈l->ds.length=sz)->l.flatten.length=l.length*sz
 | [],_=>by simp
 | x :: r,h=>by
   rw[List.flatten_cons,xC,h x vW,zJK r (λds hd=>h ds (vG _ hd)),xM,uY];omega
section
variable {R:zA5 WFr} {sz:Nat} {ty:TypeId} (L:zAU R sz)
include L
variable {w w':World} {T:zZ} {F:Nat->Prop} {id i:Nat} {v:Value} {fs:List WFr} {f:WFr}
theorem zCK.split(h:zCK R sz ty w T F id i v (fs++[f])):∃(g cap:Nat)(css:List (List Value))(cs:List Value),v=.slice (some ⟨g,0,none⟩) (fs.length+1) cap/\T g=some (id,.fs i)/\css.length=fs.length/\css.flatten.length=fs.length*sz/\cs.length=sz ∧
 w.ownsRow 0 ty sz (.slice (some ⟨g,0,none⟩) (fs.length+1) cap) (fs.length+1) (css.flatten++cs)/\R w F f cs/\(∀(j:Nat)(y:WFr)(ds:List Value),fs[j]?=some y->css[j]?=some ds->R w F y ds)/\fs.length+1<=cap/\cap<=maxLen:=by
 obtain⟨css,h1,h2,h3,⟨ad,cap,rfl⟩,h5⟩:=h;rw[xC,List.length_singleton] at h1 h2 h3;have hne:css ≠ []:=λe=>by rw[e] at h1;simp at h1
 have hs:=List.dropLast_concat_getLast hne;obtain⟨cs0,hc0⟩:=eX css.dropLast;obtain⟨cl,hcl⟩:=eX (css.getLast hne);rw[<-hc0,<-hcl] at hs;have hl0:cs0.length=fs.length:=by rw[hc0,List.length_dropLast];omega
 have hR:∀(j:Nat)(y:WFr)(ds:List Value),fs[j]?=some y->cs0[j]?=some ds->R w F y ds:=λj y ds e1 e2=>h5 j y ds (by rw[xL ((yP.1 e1).1)];exact e1) (by rw[<-hs,xL ((yP.1 e2).1)];exact e2)
 have hRl:R w F f cl:=h5 fs.length f cl (by rw[xI (yT _)];simp) (by rw[<-hs,xI (by omega)];simp[hl0])
 have hfl:cs0.flatten.length=fs.length*sz:=by
  rw[zJK (sz:=sz) cs0 (λds hd=>?_),hl0];obtain⟨j,hj,e⟩:=List.mem_iff_getElem.1 hd;have hj2:j<fs.length:=by omega
  exact L.len (hR j fs[j] ds (yL hj2) (by rw[yL hj,e]))
 have hfe:css.flatten=cs0.flatten++cl:=by rw[<-hs];simp
 rw[hfe] at h2;rcases h2.2 with⟨_,h6⟩|⟨g,c,cur,hv,hb,hg,hnc,hcm,_⟩
 ·omega
 ·simp only[xH] at hv
  obtain⟨rfl,_,rfl⟩:=hv;refine⟨g,cap,cs0,cl,by simp,h3 g rfl,hl0,hfl,L.len hRl,h2,hRl,hR,hnc,hcm⟩
end
section
variable {R:zA5 WFr} {sz:Nat} {ty:TypeId} {w w':World} {T:zZ} {F:Nat->Prop} {id i:Nat} {v:Value} {fs:List WFr} {f:WFr}
theorem zCK.join{g cap:Nat}{css:List (List Value)}{cs:List Value}(ho:w.ownsRow 0 ty sz (.slice (some ⟨g,0,none⟩) (fs.length+1) cap) (fs.length+1) (css.flatten++cs))(hg:T g=some (id,.fs i))(hl:css.length=fs.length)(hR:R w F f cs)
 (hRs:∀(j:Nat)(y:WFr)(ds:List Value),fs[j]?=some y->css[j]?=some ds->R w F y ds):zCK R sz ty w T F id i (.slice (some ⟨g,0,none⟩) (fs.length+1) cap) (fs++[f]):=by
 refine⟨css++[cs],by simp[hl],?_,λkb e=>?_,⟨some ⟨g,0,none⟩,cap,by simp⟩,λj y ds e1 e2=>?_⟩
 ·have e:(css++[cs]).flatten=css.flatten++cs:=by simp
  rw[e,xC,List.length_singleton];exact ho
 ·have e':g=kb:=J239 _
  rw[<-e'];exact hg
 ·rcases xR j fs.length with hj|hj
  ·rw[xL hj] at e1
   rw[xL (by omega)] at e2;exact hRs j y ds e1 e2
  ·rw[xI hj] at e1
   rw[xI (by omega),hl] at e2
   have hz:j-fs.length=0:=by
    have:=(yP.1 e1).1
    simpa using this
   rw[hz] at e1 e2;simp only[yC,yN] at e1 e2;subst e1 e2;exact hR
theorem zCK.pop{g cap:Nat}{css:List (List Value)}{cs:List Value}(ho:w.ownsRow 0 ty sz (.slice (some ⟨g,0,none⟩) (fs.length+1) cap) (fs.length+1) (css.flatten++cs))(hg:T g=some (id,.fs i))(hl:css.length=fs.length)(hfl:css.flatten.length=fs.length*sz)
 (hRs:∀(j:Nat)(y:WFr)(ds:List Value),fs[j]?=some y->css[j]?=some ds->R w F y ds):zCK R sz ty w T F id i (.slice (some ⟨g,0,none⟩) fs.length cap) fs:=
 ⟨css,hl,ownsRow_pop hfl ho,λkb e=>by
  have e':g=kb:=J239 _;rw[<-e'];exact hg,⟨_,cap,rfl⟩,hRs⟩
end
section
variable {R:zA5 WFr} {sz:Nat} {ty:TypeId} (L:zAU R sz)
include L
variable {w w':World} {T:zZ} {F:Nat->Prop} {id i:Nat} {v:Value} {fs:List WFr} {f:WFr}
end
def zAu(R:zA5 WFr)(sz:Nat)(ty:TypeId)(w:World)(T:zZ)(F:Nat->Prop)(id g i:Nat)(zP:List WTh)(t':WTh)(w':World):Prop:=
 ∃T' H',zAm R sz ty w' T' F id g H' (zP.set i t')/\zAT T T' id w/\Keeps (zD3 T id) w w'
theorem zAu.before{R:zA5 WFr}{sz:Nat}{ty:TypeId}{w w1 w':World}{T:zZ}{F:Nat->Prop}{id g i:Nat}{zP:List WTh}{t':WTh}(h:zAu R sz ty w1 T F id g i zP t' w')(hk:Keeps zA w w1):zAu R sz ty w T F id g i zP t' w':=by
 exact J75 _
theorem zAu.after{R:zA5 WFr}{sz:Nat}{ty:TypeId}(L:zAU R sz){w w' w2:World}{T:zZ}{F:Nat->Prop}{id g i:Nat}{zP:List WTh}{t':WTh}(h:zAu R sz ty w T F id g i zP t' w')(hk:Keeps zA w' w2):zAu R sz ty w T F id g i zP t' w2:=by
 obtain⟨T',H',h1,h2,h3⟩:=h;exact⟨T',H',yd L h1 hk (λ_ _ h=>h),h2,h3.trans hk (λ_ _ h=>h.elim)⟩
inductive AcC(w:World)(F:Nat->Prop):Ac->List Value->Prop where
 | mk (k reg obj:Int) (ex:Ex) (count:Int) (t e:List Ac) (xs:List Value) (ta ea:Option Addr) (tc ec:Nat) (tss ess:Nat->List Value) (hx:zBL w F ex xs) (ht:t.length<=tc) (he:e.length<=ec)
    (t0:zBa w F 10 t.length ta tss) (t1:∀i x,t[i]?=some x->AcC w F x (tss i)) (e0:zBa w F 10 e.length ea ess) (e1:∀i x,e[i]?=some x->AcC w F x (ess i)):
    AcC w F (.mk k reg obj ex count t e) ([.int .i64 k,.int .i64 reg,.int .i64 obj]++xs++[.int .i64 count,.slice ta t.length tc,.slice ea e.length ec])
section
variable {S F F':Nat->Prop} {w w':World} {x:Ac} {cs:List Value} {l:List Ac} {v:Value}
theorem AcC.keeps(h:AcC w F x cs)(hk:Keeps S w w')(hS:∀k,F k->¬S k):AcC w' F x cs:=by
 induction h with
 | mk k reg obj ex count t e xs ta ea tc ec tss ess hx ht he t0 _ e0 _ ih1 ih2=>exact .mk k reg obj ex count t e xs ta ea tc ec tss ess (hx.keeps hk hS) ht he (t0.keeps hk hS) ih1 (e0.keeps hk hS) ih2
theorem AcC.mono(h:AcC w F x cs)(hF:∀k,F k->F' k):AcC w F' x cs:=by
 induction h with
 | mk k reg obj ex count t e xs ta ea tc ec tss ess hx ht he t0 _ e0 _ ih1 ih2=>exact .mk k reg obj ex count t e xs ta ea tc ec tss ess (hx.mono hF) ht he (t0.mono hF) ih1 (e0.mono hF) ih2
theorem AcC.len(h:AcC w F x cs):cs.length=10:=by
 cases h with
 | mk k reg obj ex count t e xs ta ea tc ec tss ess hx=>simp[hx.len]
theorem zLL:zAU AcC 10:=⟨λh=>h.keeps,λh=>h.mono,λh=>h.len⟩
def zA3(w:World)(F:Nat->Prop)(l:List Ac)(v:Value):Prop:=∃ad cap css,v=.slice ad l.length cap/\l.length<=cap/\zBa w F 10 l.length ad css/\∀i y,l[i]?=some y->AcC w F y (css i)
theorem zA3.keeps(h:zA3 w F l v)(hk:Keeps S w w')(hS:∀k,F k->¬S k):zA3 w' F l v:=by
 obtain⟨ad,cap,css,e,hc,h0,h1⟩:=h;exact⟨ad,cap,css,e,hc,h0.keeps hk hS,λi y e=>(h1 i y e).keeps hk hS⟩
theorem zA3.mono(h:zA3 w F l v)(hF:∀k,F k->F' k):zA3 w F' l v:=by
 obtain⟨ad,cap,css,e,hc,h0,h1⟩:=h;exact⟨ad,cap,css,e,hc,h0.mono hF,λi y e=>(h1 i y e).mono hF⟩
theorem zA3.slice(h:zA3 w F l v):∃ad cap,v=.slice ad l.length cap:=by
 obtain⟨ad,cap,css,e,_⟩:=h;exact⟨ad,cap,e⟩
theorem AcC.cells(h:AcC w F x cs):∃xa xc tv ev,cs=[.int .i64 x.kind,.int .i64 x.reg,.int .i64 x.obj,.int .i64 x.ex.kind,.int .i64 x.ex.num,.string x.ex.nm,.slice xa x.ex.args.length xc,.int .i64 x.count,tv,ev] ∧
 zR w F x.ex.args xa/\zA3 w F x.thn tv/\zA3 w F x.els ev:=by
 cases h with
 | mk k r o ex c t e xs ta ea tc ec tss ess hx ht he t0 t1 e0 e1 =>
   obtain⟨xa,xc,rfl,hxs⟩:=hx.exs;exact⟨xa,xc,_,_,rfl,hxs,⟨ta,tc,tss,rfl,ht,t0,t1⟩,ea,ec,ess,rfl,he,e0,e1⟩
theorem AcC.zF1(x:Ac){xa:Option Addr}{xc:Nat}{tv ev:Value}(hx:zR w F x.ex.args xa)(ht:zA3 w F x.thn tv)(he:zA3 w F x.els ev):
 AcC w F x [.int .i64 x.kind,.int .i64 x.reg,.int .i64 x.obj,.int .i64 x.ex.kind,.int .i64 x.ex.num,.string x.ex.nm,.slice xa x.ex.args.length xc,.int .i64 x.count,tv,ev]:=by
 obtain⟨ta,tc,tss,rfl,hc,t0,t1⟩:=ht;obtain⟨ea,ec,ess,rfl,hc2,e0,e1⟩:=he;cases x with
 | mk k r o ex c t e=>exact .mk k r o ex c t e _ ta ea tc ec tss ess (zBL.zKm hx) hc hc2 t0 t1 e0 e1
theorem zA3.head{a:Ac}{r:List Ac}(h:zA3 w F (a :: r) v):∃g o cap xa xc tv ev,v=.slice (some ⟨g,o,none⟩) (r.length+1) cap/\F g/\zR w F a.ex.args xa/\zA3 w F a.thn tv/\zA3 w F a.els ev ∧
 (w.cell? ⟨g,o,none⟩=some (.int .i64 a.kind)/\w.cell? ⟨g,o+1,none⟩=some (.int .i64 a.reg)/\w.cell? ⟨g,o+2,none⟩=some (.int .i64 a.obj)/\w.cell? ⟨g,o+3,none⟩=some (.int .i64 a.ex.kind)/\w.cell? ⟨g,o+4,none⟩=some (.int .i64 a.ex.num) ∧
   w.cell? ⟨g,o+5,none⟩=some (.string a.ex.nm)/\w.cell? ⟨g,o+6,none⟩=some (.slice xa a.ex.args.length xc)/\w.cell? ⟨g,o+7,none⟩=some (.int .i64 a.count)/\w.cell? ⟨g,o+8,none⟩=some tv/\w.cell? ⟨g,o+9,none⟩=some ev):=by
 obtain⟨ad,cap,css,rfl,hc,h0,h1⟩:=h;obtain⟨xa,xc,tv,ev,e,h2,h3,h4⟩:=(h1 0 a rfl).cells;obtain⟨g,o,rfl,hg,hl,hs⟩:=h0 0 (Nat.succ_pos _);rw[e] at hs;refine⟨g,o,cap,xa,xc,tv,ev,rfl,hg,h2,h3,h4,?_⟩
 have q:∀j u,([.int .i64 a.kind,.int .i64 a.reg,.int .i64 a.obj,.int .i64 a.ex.kind,.int .i64 a.ex.num,.string a.ex.nm,.slice xa a.ex.args.length xc,.int .i64 a.count,tv,ev]:List Value)[j]?=some u->w.cell? ⟨g,o+j,none⟩=some u:=λj u hj=>by
  have:=hs j u hj
  rwa [Nat.zero_mul,xA] at this
 exact⟨q 0 _ rfl,q 1 _ rfl,q 2 _ rfl,q 3 _ rfl,q 4 _ rfl,q 5 _ rfl,q 6 _ rfl,q 7 _ rfl,q 8 _ rfl,q 9 _ rfl⟩
theorem zNn:Tryz.prog.underlying 46=some (.slice (Tryz.prog.elem 46)):=by simp[Program.elem,kK]
theorem zN8:(Tryz.prog.info? 146).map (λi=>(i.zero,i.size,i.bytes))=some (some (.agg #[(0:Int),(0:Int),(0:Int),(0:Int),(0:Int),zw,.slice none 0 0,(0:Int),.slice none 0 0,.slice none 0 0]),10,136):=by kernel_rfl
theorem zPi(w:World):(Go.sizeOf (Tryz.prog.elem 46)).run Tryz.prog w=.ok 10 w:=by
 have he:Tryz.prog.elem 46=146:=by simp[Program.elem,kK]
 obtain⟨i0,hi0,hz0,hz1,hz2⟩:=info_parts zN8;rw[he];simp[go_sem,hi0,hz1]
theorem zA3.tail{a:Ac}{r:List Ac}(h:zA3 w F (a :: r) v):∃v',(∀W,(Instr.slice 46 v (some (.int .i64 1)) none none).run Tryz.prog W=.ok v' W)/\zA3 w F r v':=by
 obtain⟨ad,cap,css,rfl,hc,h0,h1⟩:=h;have hc':r.length+1<=cap:=hc;refine⟨.slice (if cap=1 then ad else ad.map (·.add (1*10))) r.length (cap-1),λW=>?_,_,cap-1,λi=>css (i+1),rfl,by omega,λi hi=>?_,λi y e=>h1 (i+1) y (by simpa using e)⟩
 ·rw[run_slice_l W 46 _ _ _ zNn .i64 _ (by omega) (by simp;omega),zPi]
  simp[Result.andThen,sliced]
 ·obtain⟨g,o,rfl,hg,hl,hs⟩:=h0 (i+1) (by simpa using hi)
  refine⟨g,o+10,?_,hg,hl,λj u hj=>?_⟩
  ·rw[if_neg (by omega)]
   simp[Addr.add]
  ·have:=hs j u hj
   rwa [show o+10+(i*10+j)=o+((i+1)*10+j) by omega]
end
theorem zLJ(b:Bool)(w:World):Calls Tryz.prog 159 #[b] w λe w'=>e=.returned (.int .i64 (zEk b))/\w=w':=by
 cases b
 all_goals (
  go_enter Tryz.func159,Tryz.ntmps159
  go_wp2_with fail
  go_ret
  exact⟨rfl,rfl⟩)
def holdB(k a b:Int):Bool:=
 if k=10 then a==b else if k=11 then a != b else if k=12 then decide (a<b) else if k=13 then decide (a<=b)
 else if k=14 then decide (b<a) else if k=15 then decide (b<=a) else if k=16 then a != 0&&b != 0 else a != 0 || b != 0
theorem zLh{k:Int}(a b:Int)(hk:10<=k):zF0 k a b=zEk (holdB k a b):=by
 unfold zF0 holdB;rw[if_neg (by omega),if_neg (by omega),if_neg (by omega),if_neg (by omega),if_neg (by omega)];have e1:(a==b)=decide (a=b):=rfl;have e2:(a != b)=decide (a≠b):=by simp[bne,e1]
 have e3:(a != 0)=decide (a≠0):=by simp[bne];rfl
 have e4:(b != 0)=decide (b≠0):=by simp[bne];rfl
 rw[e1,e2,e3,e4];by_cases h1:k=10
 ·simp only[if_pos h1]
 ·by_cases h2:k=11
  ·simp only[if_neg h1,if_pos h2]
  ·by_cases h3:k=12
   ·simp only[if_neg h1,if_neg h2,if_pos h3]
   ·by_cases h4:k=13
    ·simp only[if_neg h1,if_neg h2,if_neg h3,if_pos h4]
    ·by_cases h5:k=14
     ·simp only[if_neg h1,if_neg h2,if_neg h3,if_neg h4,if_pos h5]
     ·by_cases h6:k=15
      ·simp only[if_neg h1,if_neg h2,if_neg h3,if_neg h4,if_neg h5,if_pos h6]
      ·by_cases h7:k=16
       ·simp only[if_neg h1,if_neg h2,if_neg h3,if_neg h4,if_neg h5,if_neg h6,if_pos h7]
       ·simp only[if_neg h1,if_neg h2,if_neg h3,if_neg h4,if_neg h5,if_neg h6,if_neg h7]
theorem zLi(k a b:Int)(hk:10<=k/\k<=17)(w:World):Calls Tryz.prog 160 #[k,a,b] w λe w'=>e=.returned (.bool (holdB k a b))/\w=w':=by
 rcases (show k=10\/k=11\/k=12\/k=13\/k=14\/k=15\/k=16\/k=17 by omega) with rfl|rfl|rfl|rfl|rfl|rfl|rfl|rfl
 all_goals (
  go_enter Tryz.func160,Tryz.ntmps160
  go_wp2_with fail
  all_goals go_ret
  all_goals first|exact⟨rfl,rfl⟩|(rename_i h;exact⟨by simp[holdB,h],rfl⟩))
theorem zOT{w:World}{rv:Value}{regs:List Int}(h:zl w rv regs.length (ints regs)){k:Nat}(hk:k<regs.length):∃g o rc,rv=.slice (some ⟨g,o,none⟩) regs.length rc/\w.cell? ⟨g,o+k,none⟩=some (.int .i64 (regs.getD k 0)):=by
 obtain⟨ad,cap,e,h1⟩:=h;obtain⟨g,o,e1,h2⟩:=h1 (by omega);exact⟨g,o,cap,by rw[e,e1],h2 k _ (zAB regs k hk)⟩
theorem zJN(k num:Int)(nm:ByteArray)(regs:List Int)(n:Int)(w:World)(ad:Option Addr)(cap:Nat)(rv:Value)(hr:zl w rv regs.length (ints regs))(hl:regs.length=n.toNat)(hk:k=1\/(k=2/\0<=num/\num<n)):
 Calls Tryz.prog 107 #[.agg #[k,num,nm,.slice ad 0 cap],rv] w λe w'=>e=.returned (.int .i64 (if k=1 then num else regs.getD num.toNat 0))/\Keeps zA w w':=by
 rcases hk with rfl|⟨rfl,h1,h2⟩
 ·rw[if_pos rfl]
  exact J68 _
 ·rw[if_neg (by decide)]
  obtain⟨g,o,rc,rfl,hc⟩:=zOT hr (k:=num.toNat) (by omega);have i1:num<(regs.length:Int):=by omega
  have e:((num.toNat:Nat):Int)=num:=by omega
  have hg:g<w.heap.size:=yR w _ hc;have hn1:g≠w.heap.size:=by omega
  have hn2:g≠w.heap.size+1:=by omega
  generalize regs.getD num.toNat 0=v at hc ⊢;generalize regs.length=z at i1 ⊢;exact J68 _
def zJg(k a:Int):Int:=if k=3 then w64 (-a) else zEk (decide (a=0))
theorem val_one(k num:Int)(nm:ByteArray)(x0:Ex)(w:World)(F:Nat->Prop)(ad:Option Addr)(cap:Nat)(rv:Value)(v0:Int)(hx:zR w F [x0] ad)
 (hv0:∀W xa xc,Keeps zA w W->zR W F x0.args xa->Calls Tryz.prog 107 #[exV x0 xa xc,rv] W λe w'=>e=.returned v0/\Keeps zA W w')
 (hk:k=3\/k=4):
 Calls Tryz.prog 107 #[.agg #[k,num,nm,.slice ad 1 cap],rv] w λe w'=>e=.returned (.int .i64 (zJg k v0))/\Keeps zA w w':=by
 obtain⟨g,o,xa0,xc0,rfl,hg0,c0,c1,c2,c3,hxx⟩:=hx.at (i:=0) (Nat.succ_pos _);have H0:Ret w 107 #[.agg #[x0.kind,x0.num,x0.nm,.slice xa0 x0.args.length xc0],rv] (.int .i64 v0):=λW hk=>hv0 W xa0 xc0 hk (vS hxx hk (λ_ _ h=>h))
 have d0:∀W,Keeps zA w W->W.cell? ⟨g,o+0,none⟩=some (.int .i64 x0.kind)/\W.cell? ⟨g,o+1,none⟩=some (.int .i64 x0.num)/\W.cell? ⟨g,o+2,none⟩=some (.string x0.nm)/\W.cell? ⟨g,o+3,none⟩=some (.slice xa0 x0.args.length xc0):=λW q=>⟨q.cell (λh=>h) c0,q.cell (λh=>h) c1,q.cell (λh=>h) c2,q.cell (λh=>h) c3⟩
 have HGW0:Hid (g<w.heap.size):=yR w _ c0;generalize x0.kind=p0 at H0 d0;generalize x0.num=m0 at H0 d0;generalize x0.nm=s0 at H0 d0;generalize x0.args.length=z0 at H0 d0;clear c0 c1 c2 c3 hxx hv0 hg0;rw[uQ] at d0;clear hx;go_enter Tryz.func107,Tryz.ntmps107
 go_upto_region 1 with fail
 obtain⟨b1,w1,e1,e2,R1,K1,S1⟩:=newRow w [k,num,nm,.slice (some ⟨g,o,none⟩) 1 cap] 144;rw[e1,e2];go_upto_region 2 with fail
 obtain⟨b2,w2,e3,e4,R2,K2,S2⟩:=newRow w1 [(0:Int),(0:Int)] 251;rw[e3,e4];have N:Hid (w.heap.size<=b2):=by show _<=_;rw[<-e3];exact K1.size
 have K02:Hid (Keeps zA w w2):=K1.zC K2;have hR1:=yA (R1.keeps K2 (λh=>h));have hN1:Hid (b1<b2):=by show _<_;rw[<-e3];exact R1.lt (by simp)
 clear e1 e2 e3 e4 S1 S2 K1 K2 R1;have y:=hR1.out.zBF;replace d0:=λW q=>d0 W (K02.out.zC q)
 have k2:=zF w2;go_wp2_with fail
 refine yY 2 ?_
 rw[yQ];go_upto_region 5 with fail
 obtain⟨b3,w3,e1,e2,R3,K3,S3⟩:=newRow w2 [p0,m0,s0,.slice xa0 z0 xc0] 144;rw[e1,e2];have K03:Keeps zA w w3:=K02.out.zC K3;clear e1 e2 S3 k2;have y3:=R3.zBF;have k3:=zF w3;have hf:=zL ((R2.keeps K3 (λh=>h)).cell (k:=0) rfl);have hz:∀W,Keeps zA w3 W->W.frozen? ⟨b2,0,none⟩=false:=λW q=>((R2.keeps K3 (λh=>h)).keeps q (λh=>h)).free (k:=0) (by simp)
 go_upto_region 6 with(go_at_call 107;refine H0.call K03 ?_;intro w4 K04 K34)
 have R4:=((R2.keeps K3 (λh=>h)).keeps K34 (λh=>h)).set 0 (by simp) (.int .i64 v0);have K45:Keeps (λq=>q=b2) w4 (w4.setCell ⟨b2,0,none⟩ (.int .i64 v0)):=(yB (λq=>q=b2) w4).setCell (p:=⟨b2,0,none⟩) (λ_=>rfl) _;generalize w4.setCell ⟨b2,0,none⟩ (.int .i64 v0)=w5_0 at R4 K45 ⊢;have K05:Hid (Keeps zA w w5_0):=K04.trans K45 (λq hq e=>by exact J232 _);have hR5:=yA (((hR1.out.keeps K3 (λh=>h)).keeps K34 (λh=>h)).keeps K45 (λe=>by have e':b1=b2:=e;have:=hN1.out;omega));have R5:zB w5_0 b2 [v0,(0:Int)]:=R4;clear y hf hz y3 k3 K03 K04 R3 R4 hR1 R2 K34 K45 K3 d0 K02;have hR1:=hR5;have R2:=R5;have K02:=K05;clear hR5 R5 K05;have y:=hR1.out.zBF;have k2:=zF w5_0;go_wp2_with fail
 rw[yQ];have y2:=R2.all2;go_upto_region 7 with fail
 go_quiet (fail)
 have kq:=k2.drewN;rcases hk with rfl|rfl
 ·go_wp2_with fail
  go_ret
  exact⟨by simp[zJg,w64],K02.out.drewN _⟩
 ·go_wp2_with (go_at_call 159;refine(zLJ _ _).mono ?_;rintro e w6 ⟨rfl,rfl⟩)
  go_ret
  exact⟨by simp[zJg];rfl,K02.out.drewN _⟩
theorem val_two(k num:Int)(nm:ByteArray)(x0 x1:Ex)(w:World)(F:Nat->Prop)(ad:Option Addr)(cap:Nat)(rv:Value)(v0 v1:Int)(hx:zR w F [x0,x1] ad)
 (hv0:∀W xa xc,Keeps zA w W->zR W F x0.args xa->Calls Tryz.prog 107 #[exV x0 xa xc,rv] W λe w'=>e=.returned v0/\Keeps zA W w')
 (hv1:∀W xa xc,Keeps zA w W->zR W F x1.args xa->Calls Tryz.prog 107 #[exV x1 xa xc,rv] W λe w'=>e=.returned v1/\Keeps zA W w')
 (hk:5<=k/\k<=17):
 Calls Tryz.prog 107 #[.agg #[k,num,nm,.slice ad 2 cap],rv] w λe w'=>e=.returned (.int .i64 (zF0 k v0 v1))/\Keeps zA w w':=by
 obtain⟨res,hres⟩:=eX (zF0 k v0 v1);rw[<-hres];have HRES:=yA hres;clear hres;obtain⟨g,o,xa0,xc0,rfl,hg0,c0,c1,c2,c3,hxx⟩:=hx.at (i:=0) (Nat.succ_pos _);have H0:Ret w 107 #[.agg #[x0.kind,x0.num,x0.nm,.slice xa0 x0.args.length xc0],rv] (.int .i64 v0):=λW hk=>hv0 W xa0 xc0 hk (vS hxx hk (λ_ _ h=>h))
 have d0:∀W,Keeps zA w W->W.cell? ⟨g,o+0,none⟩=some (.int .i64 x0.kind)/\W.cell? ⟨g,o+1,none⟩=some (.int .i64 x0.num)/\W.cell? ⟨g,o+2,none⟩=some (.string x0.nm)/\W.cell? ⟨g,o+3,none⟩=some (.slice xa0 x0.args.length xc0):=λW q=>⟨q.cell (λh=>h) c0,q.cell (λh=>h) c1,q.cell (λh=>h) c2,q.cell (λh=>h) c3⟩
 have HGW0:Hid (g<w.heap.size):=yR w _ c0;generalize x0.kind=p0 at H0 d0;generalize x0.num=m0 at H0 d0;generalize x0.nm=s0 at H0 d0;generalize x0.args.length=z0 at H0 d0;clear c0 c1 c2 c3 hxx hv0 hg0;obtain⟨g,o,xa1,xc1,q1,hg1,c0,c1,c2,c3,hxx⟩:=hx.at (i:=1) (Nat.lt_succ_self 1);cases q1;have H1:Ret w 107 #[.agg #[x1.kind,x1.num,x1.nm,.slice xa1 x1.args.length xc1],rv] (.int .i64 v1):=λW hk=>hv1 W xa1 xc1 hk (vS hxx hk (λ_ _ h=>h))
 have d1:∀W,Keeps zA w W->W.cell? ⟨g,o+4,none⟩=some (.int .i64 x1.kind)/\W.cell? ⟨g,o+5,none⟩=some (.int .i64 x1.num)/\W.cell? ⟨g,o+6,none⟩=some (.string x1.nm)/\W.cell? ⟨g,o+7,none⟩=some (.slice xa1 x1.args.length xc1):=λW q=>⟨q.cell (λh=>h) c0,q.cell (λh=>h) c1,q.cell (λh=>h) c2,q.cell (λh=>h) c3⟩
 have HGW1:Hid (g<w.heap.size):=yR w _ c0;generalize x1.kind=p1 at H1 d1;generalize x1.num=m1 at H1 d1;generalize x1.nm=s1 at H1 d1;generalize x1.args.length=z1 at H1 d1;clear c0 c1 c2 c3 hxx hv1 hg1;rw[uQ] at d0;clear hx;go_enter Tryz.func107,Tryz.ntmps107
 go_upto_region 1 with fail
 obtain⟨b1,w1,e1,e2,R1,K1,S1⟩:=newRow w [k,num,nm,.slice (some ⟨g,o,none⟩) 2 cap] 144;rw[e1,e2];go_upto_region 2 with fail
 obtain⟨b2,w2,e3,e4,R2,K2,S2⟩:=newRow w1 [(0:Int),(0:Int)] 251;rw[e3,e4];have N:Hid (w.heap.size<=b2):=by show _<=_;rw[<-e3];exact K1.size
 have K02:Hid (Keeps zA w w2):=K1.zC K2;have hR1:=yA (R1.keeps K2 (λh=>h));have hN1:Hid (b1<b2):=by show _<_;rw[<-e3];exact R1.lt (by simp)
 clear e1 e2 e3 e4 S1 S2 K1 K2 R1;have y:=hR1.out.zBF;replace d0:=λW q=>d0 W (K02.out.zC q)
 replace d1:=λW q=>d1 W (K02.out.zC q)
 have k2:=zF w2;go_wp2_with fail
 refine yY 3 ?_
 rw[yQ];go_upto_region 5 with fail
 obtain⟨b3,w3,e1,e2,R3,K3,S3⟩:=newRow w2 [p0,m0,s0,.slice xa0 z0 xc0] 144;rw[e1,e2];have K03:Keeps zA w w3:=K02.out.zC K3;clear e1 e2 S3 k2;have y3:=R3.zBF;have k3:=zF w3;have hf:=zL ((R2.keeps K3 (λh=>h)).cell (k:=0) rfl);have hz:∀W,Keeps zA w3 W->W.frozen? ⟨b2,0,none⟩=false:=λW q=>((R2.keeps K3 (λh=>h)).keeps q (λh=>h)).free (k:=0) (by simp)
 go_upto_region 6 with(go_at_call 107;refine H0.call K03 ?_;intro w4 K04 K34)
 have R4:=((R2.keeps K3 (λh=>h)).keeps K34 (λh=>h)).set 0 (by simp) (.int .i64 v0);have K45:Keeps (λq=>q=b2) w4 (w4.setCell ⟨b2,0,none⟩ (.int .i64 v0)):=(yB (λq=>q=b2) w4).setCell (p:=⟨b2,0,none⟩) (λ_=>rfl) _;generalize w4.setCell ⟨b2,0,none⟩ (.int .i64 v0)=w5_0 at R4 K45 ⊢;have K05:Hid (Keeps zA w w5_0):=K04.trans K45 (λq hq e=>by exact J232 _);have hR5:=yA (((hR1.out.keeps K3 (λh=>h)).keeps K34 (λh=>h)).keeps K45 (λe=>by have e':b1=b2:=e;have:=hN1.out;omega));have R5:zB w5_0 b2 [v0,(0:Int)]:=R4;have hg5:¬g=b2:=by have h2:=N.out;have h3:=HGW0.out;omega
 replace d1:∀W,Keeps zA w5_0 W->W.cell? ⟨g,o+4,none⟩=some (.int .i64 p1)/\W.cell? ⟨g,o+5,none⟩=some (.int .i64 m1)/\W.cell? ⟨g,o+6,none⟩=some (.string s1)/\W.cell? ⟨g,o+7,none⟩=some (.slice xa1 z1 xc1):=λW q=>by obtain⟨h0,h1,h2,h3⟩:=d1 w4 (K3.zC K34);exact⟨q.cell (λh=>h) (K45.cell (p:=⟨g,o+4,none⟩) hg5 h0),q.cell (λh=>h) (K45.cell (p:=⟨g,o+5,none⟩) hg5 h1),q.cell (λh=>h) (K45.cell (p:=⟨g,o+6,none⟩) hg5 h2),q.cell (λh=>h) (K45.cell (p:=⟨g,o+7,none⟩) hg5 h3)⟩
 clear hg5;clear y hf hz y3 k3 K03 K04 R3 R4 hR1 R2 K34 K45 K3 d0 K02;have hR1:=hR5;have R2:=R5;have K02:=K05;clear hR5 R5 K05;have y:=hR1.out.zBF;have k2:=zF w5_0;go_wp2_with fail
 rw[yQ];go_upto_region 5 with fail
 obtain⟨b3,w3,e1,e2,R3,K3,S3⟩:=newRow w5_0 [p1,m1,s1,.slice xa1 z1 xc1] 144;rw[e1,e2];have K03:Keeps zA w w3:=K02.out.zC K3;clear e1 e2 S3 k2;have y3:=R3.zBF;have k3:=zF w3;have hf:=zL ((R2.keeps K3 (λh=>h)).cell (k:=1) rfl);have hz:∀W,Keeps zA w3 W->W.frozen? ⟨b2,1,none⟩=false:=λW q=>((R2.keeps K3 (λh=>h)).keeps q (λh=>h)).free (k:=1) (by simp)
 go_upto_region 6 with(go_at_call 107;refine H1.call K03 ?_;intro w4 K04 K34)
 have R4:=((R2.keeps K3 (λh=>h)).keeps K34 (λh=>h)).set 1 (by simp) (.int .i64 v1);have K45:Keeps (λq=>q=b2) w4 (w4.setCell ⟨b2,1,none⟩ (.int .i64 v1)):=(yB (λq=>q=b2) w4).setCell (p:=⟨b2,1,none⟩) (λ_=>rfl) _;generalize w4.setCell ⟨b2,1,none⟩ (.int .i64 v1)=w5_1 at R4 K45 ⊢;have K05:Hid (Keeps zA w w5_1):=K04.trans K45 (λq hq e=>by exact J232 _);have hR5:=yA (((hR1.out.keeps K3 (λh=>h)).keeps K34 (λh=>h)).keeps K45 (λe=>by have e':b1=b2:=e;have:=hN1.out;omega));have R5:zB w5_1 b2 [v0,v1]:=R4;clear y hf hz y3 k3 K03 K04 R3 R4 hR1 R2 K34 K45 K3 d1 K02;have hR1:=hR5;have R2:=R5;have K02:=K05;clear hR5 R5 K05;have y:=hR1.out.zBF;have k2:=zF w5_1;go_wp2_with fail
 rw[yQ];have y2:=R2.all2;go_upto_region 7 with fail
 go_quiet (fail)
 have kq:=k2.drewN;by_cases h10:10<=k
 ·rcases (show k=10\/k=11\/k=12\/k=13\/k=14\/k=15\/k=16\/k=17 by omega) with rfl|rfl|rfl|rfl|rfl|rfl|rfl|rfl
  all_goals (
   go_wp2_with (first|(go_at_call 160;refine(zLi _ v0 v1 (by decide) _).mono ?_;rintro e w6 ⟨rfl,rfl⟩)|(go_at_call 159;refine(zLJ _ _).mono ?_;rintro e w6 ⟨rfl,rfl⟩))
   go_ret
   exact⟨by rw[HRES.out,zLh v0 v1 (by decide)];rfl,K02.out.drewN _⟩)
 ·rcases (show k=5\/k=6\/k=7\/k=8\/k=9 by omega) with rfl|rfl|rfl|rfl|rfl
  ·exact J61 _
  ·exact J61 _
  ·exact J61 _
  all_goals (
   by_cases hz:v1=0
   ·subst hz
    exact J61 _
   ·go_wp2_with fail
    go_ret
    exact⟨by rw[HRES.out];simp[zF0,w64,hz],K02.out.drewN _⟩)
theorem Ex.zQS(regs:List Int)(x:Ex):x.val regs=if x.kind=1 then x.num else if x.kind=2 then regs.getD x.num.toNat 0 else if x.kind=3 then w64 (-((Ex.zD4 regs x.args).getD 0 0)) else if x.kind=4 then zEk (decide ((Ex.zD4 regs x.args).getD 0 0=0)) else zF0 x.kind ((Ex.zD4 regs x.args).getD 0 0) ((Ex.zD4 regs x.args).getD 1 0):=by
 cases x;rw[Ex.val];rfl
theorem zE1(regs:List Int)(n:Int)(rv:Value)(hl:regs.length=n.toNat):∀(x:Ex)(w:World)(F:Nat->Prop)(ad:Option Addr)(cap:Nat),zR w F x.args ad->zl w rv regs.length (ints regs)->x.may n=true →
 Calls Tryz.prog 107 #[exV x ad cap,rv] w λe w'=>e=.returned (.int .i64 (x.val regs))/\Keeps zA w w':=by
 refine Ex.ind (λk num nm l ih w F ad cap h hr hm=>?_)
 obtain⟨h1,h2⟩:=Ex.zDA hm;have hlf:zAE k num nm l.length n=true:=h1;have hml:Ex.zAC n l=true:=h2;have hL:zR w F l ad:=h;rw[Ex.zQS];show Calls _ _ #[.agg #[k,num,nm,.slice ad l.length cap],_] _ (λe w'=>e=.returned (.int .i64 (if k=1 then num else if k=2 then regs.getD num.toNat 0 else if k=3 then w64 (-((Ex.zD4 regs l).getD 0 0)) else if k=4 then zEk (decide ((Ex.zD4 regs l).getD 0 0=0)) else zF0 k ((Ex.zD4 regs l).getD 0 0) ((Ex.zD4 regs l).getD 1 0)))/\_)
 have hsub:∀y,y∈l->∀W xa xc,Keeps zA w W->zR W F y.args xa->Calls Tryz.prog 107 #[exV y xa xc,rv] W λe w'=>e=.returned (.int .i64 (y.val regs))/\Keeps zA W w':=λy hy W xa xc hk hx=>ih y hy W F xa xc hx (hr.keeps hk (λ_ _ h=>h)) (Ex.zE3 hml hy)
 rcases zDV hlf with⟨rfl,h0⟩|⟨rfl,h0,h3,h4⟩|⟨hk,h0⟩|⟨k1,k2,h0⟩
 ·rw[h0]
  have:=zJN 1 num nm regs n w ad cap rv hr hl (.inl rfl)
  simpa using this
 ·rw[h0]
  have:=zJN 2 num nm regs n w ad cap rv hr hl (.inr ⟨rfl,h3,h4⟩)
  simpa using this
 ·match l,h0,hL,hsub with
  | [x0],_,hL,hsub =>
    have:=val_one k num nm x0 w F ad cap rv (x0.val regs) hL (hsub x0 (by simp)) hk
    rcases hk with rfl|rfl
    ·simpa [zJg,Ex.zD4] using this
    ·simpa [zJg,Ex.zD4] using this
 ·match l,h0,hL,hsub with
  | [x0,x1],_,hL,hsub =>
    have:=val_two k num nm x0 x1 w F ad cap rv (x0.val regs) (x1.val regs) hL (hsub x0 (by simp)) (hsub x1 (by simp)) ⟨k1,k2⟩
    rw[if_neg (by omega),if_neg (by omega),if_neg (by omega),if_neg (by omega)];simpa [Ex.zD4] using this
