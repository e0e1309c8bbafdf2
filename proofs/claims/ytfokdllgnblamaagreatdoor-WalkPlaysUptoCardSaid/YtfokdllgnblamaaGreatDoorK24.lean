/- Layer K: texts joined. -/
import Derived.Test.YtfokdllgnblamaaGreatDoorK23
set_option linter.all false
set_option maxHeartbeats 4000000
set_option maxRecDepth 8000
namespace Go.Proofs.YtfokdllgnblamaaGreatDoor
open Go.RowKit
abbrev vT:=@Go.Proofs.Tryz.underlying66
abbrev vN:=@zAV.keeps
abbrev xY:=@zN.keeps
theorem J69 (P:Prop) (h:P:=by
 go_wp2_with fail
 go_ret
 exact ⟨by rw [HRES.out];simp [zDA,w64],K02.out.drewN _⟩):P:=h
theorem J74 (P:Prop) (h:P:=by
 clear hr hl;go_enter Tryz.func78,Tryz.ntmps78
 go_wp2_with fail
 refine uT 1 ?_
 rw [uH];go_upto_region 7 with fail
 go_quiet (fail)
 go_wp2_with fail
 go_ret
 exact ⟨rfl,(((zH w).alloc _).alloc _).drewN _⟩):P:=h
theorem J80 (P:Prop) (h:P:=by
 obtain ⟨T',H',h1,h2,h3⟩:=h;exact ⟨T',H',h1,⟨h2.1,fun k y e=>(h2.2 k y e).imp (fun h=>h) (fun h=>⟨yX hk.size h.1,h.2⟩)⟩,(hk.mono (fun _ _ h=>h.elim)).trans h3 (fun _ _ h=>h)⟩):P:=h
theorem J252 (P:Prop) (h:P:=by have e':q=b2:=e;have:=N.out;omega):P:=h
theorem zIX {α:Type} {sz:Nat}:∀ (l:List (List α)),(∀ ds,ds ∈ l -> ds.length=sz) -> l.flatten.length=l.length*sz
 | [],_=>by simp
 | x :: r,h=>by
   rw [kU,xU,h x uR,zIX r (fun ds hd=>h ds (uS _ hd)),xZ,uY];omega
section
variable {R:zBA WFr} {sz:Nat} {ty:TypeId} (L:zAX R sz)
include L
variable {w w':World} {T:zS} {F:Nat -> Prop} {id i:Nat} {v:Value} {fs:List WFr} {f:WFr}
theorem zBV.split (h:zBV R sz ty w T F id i v (fs++[f])):∃ (g cap:Nat) (css:List (List Value)) (cs:List Value),v=.slice (some ⟨g,0,none⟩) (fs.length+1) cap /\ T g=some (id, .fs i) /\ css.length=fs.length /\ css.flatten.length=fs.length*sz /\ cs.length=sz ∧
 w.ownsRow 0 ty sz (.slice (some ⟨g,0,none⟩) (fs.length+1) cap) (fs.length+1) (css.flatten++cs) /\ R w F f cs /\ (∀ (j:Nat) (y:WFr) (ds:List Value),fs[j]?=some y -> css[j]?=some ds -> R w F y ds) /\ fs.length+1 <= cap /\ cap <= maxLen:=by
 obtain ⟨css,h1,h2,h3,⟨ad,cap,rfl⟩,h5⟩:=h;rw [xU,List.length_singleton] at h1 h2 h3;have hne:css ≠ []:=fun e=>by rw [e] at h1;simp at h1
 have hs:=List.dropLast_concat_getLast hne;obtain ⟨cs0,hc0⟩:=eX css.dropLast;obtain ⟨cl,hcl⟩:=eX (css.getLast hne);rw [<- hc0,<- hcl] at hs;have hl0:cs0.length=fs.length:=by rw [hc0,List.length_dropLast];omega
 have hR:∀ (j:Nat) (y:WFr) (ds:List Value),fs[j]?=some y -> cs0[j]?=some ds -> R w F y ds:=fun j y ds e1 e2=>h5 j y ds (by rw [xS ((yP.1 e1).1)];exact e1) (by rw [<- hs,xS ((yP.1 e2).1)];exact e2)
 have hRl:R w F f cl:=h5 fs.length f cl (by rw [xH (yV _)];simp) (by rw [<- hs,xH (by omega)];simp [hl0])
 have hfl:cs0.flatten.length=fs.length*sz:=by
  rw [zIX (sz:=sz) cs0 (fun ds hd=>?_),hl0];obtain ⟨j,hj,e⟩:=List.mem_iff_getElem.1 hd;have hj2:j < fs.length:=by omega
  exact L.len (hR j fs[j] ds (yQ hj2) (by rw [yQ hj,e]))
 have hfe:css.flatten=cs0.flatten++cl:=by rw [<- hs];simp
 rw [hfe] at h2;rcases h2.2 with ⟨_,h6⟩ | ⟨g,c,cur,hv,hb,hg,hnc,hcm,_⟩
 ·omega
 ·simp only [uJ] at hv
  obtain ⟨rfl,_,rfl⟩:=hv;refine ⟨g,cap,cs0,cl,by simp,h3 g rfl,hl0,hfl,L.len hRl,h2,hRl,hR,hnc,hcm⟩
end
section
variable {R:zBA WFr} {sz:Nat} {ty:TypeId} {w w':World} {T:zS} {F:Nat -> Prop} {id i:Nat} {v:Value} {fs:List WFr} {f:WFr}
theorem zBV.join {g cap:Nat} {css:List (List Value)} {cs:List Value} (ho:w.ownsRow 0 ty sz (.slice (some ⟨g,0,none⟩) (fs.length+1) cap) (fs.length+1) (css.flatten++cs)) (hg:T g=some (id, .fs i)) (hl:css.length=fs.length) (hR:R w F f cs)
 (hRs:∀ (j:Nat) (y:WFr) (ds:List Value),fs[j]?=some y -> css[j]?=some ds -> R w F y ds):zBV R sz ty w T F id i (.slice (some ⟨g,0,none⟩) (fs.length+1) cap) (fs++[f]):=by
 refine ⟨css++[cs],by simp [hl],?_,fun kb e=>?_,⟨some ⟨g,0,none⟩,cap,by simp⟩,fun j y ds e1 e2=>?_⟩
 ·have e:(css++[cs]).flatten=css.flatten++cs:=by simp
  rw [e,xU,List.length_singleton];exact ho
 ·have e':g=kb:=J257 _
  rw [<- e'];exact hg
 ·rcases xR j fs.length with hj | hj
  ·rw [xS hj] at e1
   rw [xS (by omega)] at e2;exact hRs j y ds e1 e2
  ·rw [xH hj] at e1
   rw [xH (by omega),hl] at e2
   have hz:j - fs.length=0:=by
    have:=(yP.1 e1).1
    simpa using this
   rw [hz] at e1 e2;simp only [yD,yO] at e1 e2;subst e1 e2;exact hR
theorem zBV.pop {g cap:Nat} {css:List (List Value)} {cs:List Value} (ho:w.ownsRow 0 ty sz (.slice (some ⟨g,0,none⟩) (fs.length+1) cap) (fs.length+1) (css.flatten++cs)) (hg:T g=some (id, .fs i)) (hl:css.length=fs.length) (hfl:css.flatten.length=fs.length*sz)
 (hRs:∀ (j:Nat) (y:WFr) (ds:List Value),fs[j]?=some y -> css[j]?=some ds -> R w F y ds):zBV R sz ty w T F id i (.slice (some ⟨g,0,none⟩) fs.length cap) fs :=
 ⟨css,hl,ownsRow_pop hfl ho,fun kb e=>by
  have e':g=kb:=J257 _;rw [<- e'];exact hg,⟨_,cap,rfl⟩,hRs⟩
end
section
variable {R:zBA WFr} {sz:Nat} {ty:TypeId} (L:zAX R sz)
include L
variable {w w':World} {T:zS} {F:Nat -> Prop} {id i:Nat} {v:Value} {fs:List WFr} {f:WFr}
end
def zAR (R:zBA WFr) (sz:Nat) (ty:TypeId) (w:World) (T:zS) (F:Nat -> Prop) (id g i:Nat) (zM:List WTh) (t':WTh) (w':World):Prop :=
 ∃ T' H',zAV R sz ty w' T' F id g H' (zM.set i t') /\ zAG T T' id w /\ Keeps (zCj T id) w w'
theorem zAR.before {R:zBA WFr} {sz:Nat} {ty:TypeId} {w w1 w':World} {T:zS} {F:Nat -> Prop} {id g i:Nat} {zM:List WTh} {t':WTh} (h:zAR R sz ty w1 T F id g i zM t' w') (hk:Keeps zA w w1):zAR R sz ty w T F id g i zM t' w':=by
 exact J80 _
theorem zAR.after {R:zBA WFr} {sz:Nat} {ty:TypeId} (L:zAX R sz) {w w' w2:World} {T:zS} {F:Nat -> Prop} {id g i:Nat} {zM:List WTh} {t':WTh} (h:zAR R sz ty w T F id g i zM t' w') (hk:Keeps zA w' w2):zAR R sz ty w T F id g i zM t' w2:=by
 obtain ⟨T',H',h1,h2,h3⟩:=h;exact ⟨T',H',vN L h1 hk (fun _ _ h=>h),h2,h3.trans hk (fun _ _ h=>h.elim)⟩
inductive AcC (w:World) (F:Nat -> Prop):Ac -> List Value -> Prop where
 | mk (k reg obj:Int) (ex:Ex) (count:Int) (t e:List Ac) (xs:List Value) (ta ea:Option Addr) (tc ec:Nat) (tss ess:Nat -> List Value) (hx:zA9 w F ex xs) (ht:t.length <= tc) (he:e.length <= ec)
    (t0:zBN w F 10 t.length ta tss) (t1:∀ i x,t[i]?=some x -> AcC w F x (tss i)) (e0:zBN w F 10 e.length ea ess) (e1:∀ i x,e[i]?=some x -> AcC w F x (ess i)) :
    AcC w F (.mk k reg obj ex count t e) ([.int .i64 k, .int .i64 reg, .int .i64 obj]++xs++[.int .i64 count, .slice ta t.length tc, .slice ea e.length ec])
section
variable {S F F':Nat -> Prop} {w w':World} {x:Ac} {cs:List Value} {l:List Ac} {v:Value}
theorem AcC.keeps (h:AcC w F x cs) (hk:Keeps S w w') (hS:∀ k,F k -> ¬ S k):AcC w' F x cs:=by
 induction h with
 | mk k reg obj ex count t e xs ta ea tc ec tss ess hx ht he t0 _ e0 _ ih1 ih2=>exact .mk k reg obj ex count t e xs ta ea tc ec tss ess (hx.keeps hk hS) ht he (t0.keeps hk hS) ih1 (e0.keeps hk hS) ih2
theorem AcC.mono (h:AcC w F x cs) (hF:∀ k,F k -> F' k):AcC w F' x cs:=by
 induction h with
 | mk k reg obj ex count t e xs ta ea tc ec tss ess hx ht he t0 _ e0 _ ih1 ih2=>exact .mk k reg obj ex count t e xs ta ea tc ec tss ess (hx.mono hF) ht he (t0.mono hF) ih1 (e0.mono hF) ih2
theorem AcC.len (h:AcC w F x cs):cs.length=10:=by
 cases h with
 | mk k reg obj ex count t e xs ta ea tc ec tss ess hx=>simp [hx.len]
theorem zJx:zAX AcC 10:=⟨fun h=>h.keeps,fun h=>h.mono,fun h=>h.len⟩
def zBD (w:World) (F:Nat -> Prop) (l:List Ac) (v:Value):Prop:=∃ ad cap css,v=.slice ad l.length cap /\ l.length <= cap /\ zBN w F 10 l.length ad css /\ ∀ i y,l[i]?=some y -> AcC w F y (css i)
theorem zBD.keeps (h:zBD w F l v) (hk:Keeps S w w') (hS:∀ k,F k -> ¬ S k):zBD w' F l v:=by
 obtain ⟨ad,cap,css,e,hc,h0,h1⟩:=h;exact ⟨ad,cap,css,e,hc,h0.keeps hk hS,fun i y e=>(h1 i y e).keeps hk hS⟩
theorem zBD.mono (h:zBD w F l v) (hF:∀ k,F k -> F' k):zBD w F' l v:=by
 obtain ⟨ad,cap,css,e,hc,h0,h1⟩:=h;exact ⟨ad,cap,css,e,hc,h0.mono hF,fun i y e=>(h1 i y e).mono hF⟩
theorem zBD.slice (h:zBD w F l v):∃ ad cap,v=.slice ad l.length cap:=by
 obtain ⟨ad,cap,css,e,_⟩:=h;exact ⟨ad,cap,e⟩
theorem AcC.cells (h:AcC w F x cs):∃ xa xc tv ev,cs=[.int .i64 x.kind, .int .i64 x.reg, .int .i64 x.obj, .int .i64 x.ex.kind, .int .i64 x.ex.num, .string x.ex.nm, .slice xa x.ex.args.length xc, .int .i64 x.count,tv,ev] ∧
 zN w F x.ex.args xa /\ zBD w F x.thn tv /\ zBD w F x.els ev:=by
 cases h with
 | mk k r o ex c t e xs ta ea tc ec tss ess hx ht he t0 t1 e0 e1 =>
   obtain ⟨xa,xc,rfl,hxs⟩:=hx.exs;exact ⟨xa,xc,_,_,rfl,hxs,⟨ta,tc,tss,rfl,ht,t0,t1⟩,ea,ec,ess,rfl,he,e0,e1⟩
theorem AcC.zCv (x:Ac) {xa:Option Addr} {xc:Nat} {tv ev:Value} (hx:zN w F x.ex.args xa) (ht:zBD w F x.thn tv) (he:zBD w F x.els ev) :
 AcC w F x [.int .i64 x.kind, .int .i64 x.reg, .int .i64 x.obj, .int .i64 x.ex.kind, .int .i64 x.ex.num, .string x.ex.nm, .slice xa x.ex.args.length xc, .int .i64 x.count,tv,ev]:=by
 obtain ⟨ta,tc,tss,rfl,hc,t0,t1⟩:=ht;obtain ⟨ea,ec,ess,rfl,hc2,e0,e1⟩:=he;cases x with
 | mk k r o ex c t e=>exact .mk k r o ex c t e _ ta ea tc ec tss ess (zA9.zFu hx) hc hc2 t0 t1 e0 e1
theorem zBD.head {a:Ac} {r:List Ac} (h:zBD w F (a :: r) v):∃ g o cap xa xc tv ev,v=.slice (some ⟨g,o,none⟩) (r.length+1) cap /\ F g /\ zN w F a.ex.args xa /\ zBD w F a.thn tv /\ zBD w F a.els ev ∧
 (w.cell? ⟨g,o,none⟩=some (.int .i64 a.kind) /\ w.cell? ⟨g,o+1,none⟩=some (.int .i64 a.reg) /\ w.cell? ⟨g,o+2,none⟩=some (.int .i64 a.obj) /\ w.cell? ⟨g,o+3,none⟩=some (.int .i64 a.ex.kind) /\ w.cell? ⟨g,o+4,none⟩=some (.int .i64 a.ex.num) ∧
   w.cell? ⟨g,o+5,none⟩=some (.string a.ex.nm) /\ w.cell? ⟨g,o+6,none⟩=some (.slice xa a.ex.args.length xc) /\ w.cell? ⟨g,o+7,none⟩=some (.int .i64 a.count) /\ w.cell? ⟨g,o+8,none⟩=some tv /\ w.cell? ⟨g,o+9,none⟩=some ev):=by
 obtain ⟨ad,cap,css,rfl,hc,h0,h1⟩:=h;obtain ⟨xa,xc,tv,ev,e,h2,h3,h4⟩:=(h1 0 a rfl).cells;obtain ⟨g,o,rfl,hg,hl,hs⟩:=h0 0 (Nat.succ_pos _);rw [e] at hs;refine ⟨g,o,cap,xa,xc,tv,ev,rfl,hg,h2,h3,h4,?_⟩
 have q:∀ j u,([.int .i64 a.kind, .int .i64 a.reg, .int .i64 a.obj, .int .i64 a.ex.kind, .int .i64 a.ex.num, .string a.ex.nm, .slice xa a.ex.args.length xc, .int .i64 a.count,tv,ev]:List Value)[j]?=some u -> w.cell? ⟨g,o+j,none⟩=some u:=fun j u hj=>by
  have:=hs j u hj
  rwa [Nat.zero_mul,yZ] at this
 exact ⟨q 0 _ rfl,q 1 _ rfl,q 2 _ rfl,q 3 _ rfl,q 4 _ rfl,q 5 _ rfl,q 6 _ rfl,q 7 _ rfl,q 8 _ rfl,q 9 _ rfl⟩
theorem zLc:Tryz.prog.underlying 66=some (.slice (Tryz.prog.elem 66)):=by simp [Program.elem,vT]
theorem zLT:(Tryz.prog.info? 68).map (fun i=>(i.zero,i.size,i.bytes))=some (some (.agg #[.int .i64 0, .int .i64 0, .int .i64 0, .int .i64 0, .int .i64 0, .string zq, .slice none 0 0, .int .i64 0, .slice none 0 0, .slice none 0 0]),10,136):=by kernel_rfl
theorem zNR (w:World):(Go.sizeOf (Tryz.prog.elem 66)).run Tryz.prog w=.ok 10 w:=by
 have he:Tryz.prog.elem 66=68:=by simp [Program.elem,vT]
 obtain ⟨i0,hi0,hz0,hz1,hz2⟩:=info_parts zLT;rw [he];simp [go_sem,hi0,hz1]
theorem zBD.tail {a:Ac} {r:List Ac} (h:zBD w F (a :: r) v):∃ v',(∀ W,(Instr.slice 66 v (some (.int .i64 1)) none none).run Tryz.prog W=.ok v' W) /\ zBD w F r v':=by
 obtain ⟨ad,cap,css,rfl,hc,h0,h1⟩:=h;have hc':r.length+1 <= cap:=hc;refine ⟨.slice (if cap=1 then ad else ad.map (·.add (1*10))) r.length (cap - 1),fun W=>?_,_,cap - 1,fun i=>css (i+1),rfl,by omega,fun i hi=>?_,fun i y e=>h1 (i+1) y (by simpa using e)⟩
 ·rw [run_slice_l W 66 _ _ _ zLc .i64 _ (by omega) (by simp;omega),zNR]
  simp [Result.andThen,sliced]
 ·obtain ⟨g,o,rfl,hg,hl,hs⟩:=h0 (i+1) (by simpa using hi)
  refine ⟨g,o+10,?_,hg,hl,fun j u hj=>?_⟩
  ·rw [if_neg (by omega)]
   simp [Addr.add]
  ·have:=hs j u hj
   rwa [show o+10+(i*10+j)=o+((i+1)*10+j) by omega]
end
theorem zJg (b:Bool) (w:World):Calls Tryz.prog 101 #[.bool b] w fun e w'=>e=.returned (.int .i64 (zD7 b)) /\ w=w':=by
 cases b
 all_goals (
  go_enter Tryz.func101,Tryz.ntmps101
  go_wp2_with fail
  go_ret
  exact ⟨rfl,rfl⟩)
def holdB (k a b:Int):Bool :=
 if k=10 then a==b else if k=11 then a != b else if k=12 then decide (a < b) else if k=13 then decide (a <= b)
 else if k=14 then decide (b < a) else if k=15 then decide (b <= a) else if k=16 then a != 0&&b != 0 else a != 0 || b != 0
theorem zCB {k:Int} (a b:Int) (hk:10 <= k):zDA k a b=zD7 (holdB k a b):=by
 unfold zDA holdB;rw [if_neg (by omega),if_neg (by omega),if_neg (by omega),if_neg (by omega),if_neg (by omega)];have e1:(a==b)=decide (a=b):=rfl;have e2:(a != b)=decide (a ≠ b):=by simp [bne,e1]
 have e3:(a != 0)=decide (a ≠ 0):=by simp [bne];rfl
 have e4:(b != 0)=decide (b ≠ 0):=by simp [bne];rfl
 rw [e1,e2,e3,e4];by_cases h1:k=10
 ·simp only [if_pos h1]
 ·by_cases h2:k=11
  ·simp only [if_neg h1,if_pos h2]
  ·by_cases h3:k=12
   ·simp only [if_neg h1,if_neg h2,if_pos h3]
   ·by_cases h4:k=13
    ·simp only [if_neg h1,if_neg h2,if_neg h3,if_pos h4]
    ·by_cases h5:k=14
     ·simp only [if_neg h1,if_neg h2,if_neg h3,if_neg h4,if_pos h5]
     ·by_cases h6:k=15
      ·simp only [if_neg h1,if_neg h2,if_neg h3,if_neg h4,if_neg h5,if_pos h6]
      ·by_cases h7:k=16
       ·simp only [if_neg h1,if_neg h2,if_neg h3,if_neg h4,if_neg h5,if_neg h6,if_pos h7]
       ·simp only [if_neg h1,if_neg h2,if_neg h3,if_neg h4,if_neg h5,if_neg h6,if_neg h7]
theorem zKZ (k a b:Int) (hk:10 <= k /\ k <= 17) (w:World):Calls Tryz.prog 102 #[.int .i64 k, .int .i64 a, .int .i64 b] w fun e w'=>e=.returned (.bool (holdB k a b)) /\ w=w':=by
 rcases (show k=10 \/ k=11 \/ k=12 \/ k=13 \/ k=14 \/ k=15 \/ k=16 \/ k=17 by omega) with rfl | rfl | rfl | rfl | rfl | rfl | rfl | rfl
 all_goals (
  go_enter Tryz.func102,Tryz.ntmps102
  go_wp2_with fail
  all_goals go_ret
  all_goals first | exact ⟨rfl,rfl⟩ | (rename_i h;exact ⟨by simp [holdB,h],rfl⟩))
theorem zJv {w:World} {rv:Value} {regs:List Int} (h:zAD w rv regs.length (ints regs)) {k:Nat} (hk:k < regs.length):∃ g o rc,rv=.slice (some ⟨g,o,none⟩) regs.length rc /\ w.cell? ⟨g,o+k,none⟩=some (.int .i64 (regs.getD k 0)):=by
 obtain ⟨ad,cap,e,h1⟩:=h;obtain ⟨g,o,e1,h2⟩:=h1 (by omega);exact ⟨g,o,cap,by rw [e,e1],h2 k _ (zu regs k hk)⟩
theorem zIb (k num:Int) (nm:ByteArray) (regs:List Int) (n:Int) (w:World) (ad:Option Addr) (cap:Nat) (rv:Value) (hr:zAD w rv regs.length (ints regs)) (hl:regs.length=n.toNat) (hk:k=1 \/ (k=2 /\ 0 <= num /\ num < n)) :
 Calls Tryz.prog 78 #[.agg #[.int .i64 k, .int .i64 num, .string nm, .slice ad 0 cap],rv] w fun e w'=>e=.returned (.int .i64 (if k=1 then num else regs.getD num.toNat 0)) /\ Keeps zA w w':=by
 rcases hk with rfl | ⟨rfl,h1,h2⟩
 ·rw [if_pos rfl]
  exact J74 _
 ·rw [if_neg (by decide)]
  obtain ⟨g,o,rc,rfl,hc⟩:=zJv hr (k:=num.toNat) (by omega);have i1:num < (regs.length:Int):=by omega
  have e:((num.toNat:Nat):Int)=num:=by omega
  have hg:g < w.heap.size:=xP w _ hc;have hn1:g ≠ w.heap.size:=by omega
  have hn2:g ≠ w.heap.size+1:=by omega
  generalize regs.getD num.toNat 0=v at hc ⊢;generalize regs.length=z at i1 ⊢;exact J74 _
def zEB (k a:Int):Int:=if k=3 then w64 (-a) else zD7 (decide (a=0))
theorem val_one (k num:Int) (nm:ByteArray) (x0:Ex) (w:World) (F:Nat -> Prop) (ad:Option Addr) (cap:Nat) (rv:Value) (v0:Int) (hx:zN w F [x0] ad)
 (hv0:∀ W xa xc,Keeps zA w W -> zN W F x0.args xa -> Calls Tryz.prog 78 #[exV x0 xa xc,rv] W fun e w'=>e=.returned (.int .i64 v0) /\ Keeps zA W w')
 (hk:k=3 \/ k=4) :
 Calls Tryz.prog 78 #[.agg #[.int .i64 k, .int .i64 num, .string nm, .slice ad 1 cap],rv] w fun e w'=>e=.returned (.int .i64 (zEB k v0)) /\ Keeps zA w w':=by
 obtain ⟨g,o,xa0,xc0,rfl,hg0,c0,c1,c2,c3,hxx⟩:=hx.at (i:=0) (Nat.succ_pos _);have H0:Ret w 78 #[.agg #[.int .i64 x0.kind, .int .i64 x0.num, .string x0.nm, .slice xa0 x0.args.length xc0],rv] (.int .i64 v0):=fun W hk=>hv0 W xa0 xc0 hk (xY hxx hk (fun _ _ h=>h))
 have d0:∀ W,Keeps zA w W -> W.cell? ⟨g,o+0,none⟩=some (.int .i64 x0.kind) /\ W.cell? ⟨g,o+1,none⟩=some (.int .i64 x0.num) /\ W.cell? ⟨g,o+2,none⟩=some (.string x0.nm) /\ W.cell? ⟨g,o+3,none⟩=some (.slice xa0 x0.args.length xc0):=fun W q=>⟨q.cell (fun h=>h) c0,q.cell (fun h=>h) c1,q.cell (fun h=>h) c2,q.cell (fun h=>h) c3⟩
 have HGW0:Hid (g < w.heap.size):=xP w _ c0;generalize x0.kind=p0 at H0 d0;generalize x0.num=m0 at H0 d0;generalize x0.nm=s0 at H0 d0;generalize x0.args.length=z0 at H0 d0;clear c0 c1 c2 c3 hxx hv0 hg0;rw [vF] at d0;clear hx;go_enter Tryz.func78,Tryz.ntmps78
 go_upto_region 1 with fail
 obtain ⟨b1,w1,e1,e2,R1,K1,S1⟩:=newRow w [.int .i64 k, .int .i64 num, .string nm, .slice (some ⟨g,o,none⟩) 1 cap] 65;rw [e1,e2];go_upto_region 2 with fail
 obtain ⟨b2,w2,e3,e4,R2,K2,S2⟩:=newRow w1 [.int .i64 0, .int .i64 0] 177;rw [e3,e4];have N:Hid (w.heap.size <= b2):=by show _ <= _;rw [<- e3];exact K1.size
 have K02:Hid (Keeps zA w w2):=K1.zB K2;have hR1:=yB (R1.keeps K2 (fun h=>h));have hN1:Hid (b1 < b2):=by show _ < _;rw [<- e3];exact R1.lt (by simp)
 clear e1 e2 e3 e4 S1 S2 K1 K2 R1;have y:=hR1.out.zB0;replace d0:=fun W q=>d0 W (K02.out.zB q)
 have k2:=zH w2;go_wp2_with fail
 refine uT 2 ?_
 rw [uH];go_upto_region 5 with fail
 obtain ⟨b3,w3,e1,e2,R3,K3,S3⟩:=newRow w2 [.int .i64 p0, .int .i64 m0, .string s0, .slice xa0 z0 xc0] 65;rw [e1,e2];have K03:Keeps zA w w3:=K02.out.zB K3;clear e1 e2 S3 k2;have y3:=R3.zB0;have k3:=zH w3;have hf:=zV ((R2.keeps K3 (fun h=>h)).cell (k:=0) rfl);have hz:∀ W,Keeps zA w3 W -> W.frozen? ⟨b2,0,none⟩=false:=fun W q=>((R2.keeps K3 (fun h=>h)).keeps q (fun h=>h)).free (k:=0) (by simp)
 go_upto_region 6 with (go_at_call 78;refine H0.call K03 ?_;intro w4 K04 K34)
 have R4:=((R2.keeps K3 (fun h=>h)).keeps K34 (fun h=>h)).set 0 (by simp) (.int .i64 v0);have K45:Keeps (fun q=>q=b2) w4 (w4.setCell ⟨b2,0,none⟩ (.int .i64 v0)):=(yC (fun q=>q=b2) w4).setCell (p:=⟨b2,0,none⟩) (fun _=>rfl) _;generalize w4.setCell ⟨b2,0,none⟩ (.int .i64 v0)=w5_0 at R4 K45 ⊢;have K05:Hid (Keeps zA w w5_0):=K04.trans K45 (fun q hq e=>by exact J252 _);have hR5:=yB (((hR1.out.keeps K3 (fun h=>h)).keeps K34 (fun h=>h)).keeps K45 (fun e=>by have e':b1=b2:=e;have:=hN1.out;omega));have R5:zC w5_0 b2 [.int .i64 v0, .int .i64 0]:=R4;clear y hf hz y3 k3 K03 K04 R3 R4 hR1 R2 K34 K45 K3 d0 K02;have hR1:=hR5;have R2:=R5;have K02:=K05;clear hR5 R5 K05;have y:=hR1.out.zB0;have k2:=zH w5_0;go_wp2_with fail
 rw [uH];have y2:=R2.all2;go_upto_region 7 with fail
 go_quiet (fail)
 have kq:=k2.drewN;rcases hk with rfl | rfl
 ·go_wp2_with fail
  go_ret
  exact ⟨by simp [zEB,w64],K02.out.drewN _⟩
 ·go_wp2_with (go_at_call 101;refine (zJg _ _).mono ?_;rintro e w6 ⟨rfl,rfl⟩)
  go_ret
  exact ⟨by simp [zEB];rfl,K02.out.drewN _⟩
theorem val_two (k num:Int) (nm:ByteArray) (x0 x1:Ex) (w:World) (F:Nat -> Prop) (ad:Option Addr) (cap:Nat) (rv:Value) (v0 v1:Int) (hx:zN w F [x0,x1] ad)
 (hv0:∀ W xa xc,Keeps zA w W -> zN W F x0.args xa -> Calls Tryz.prog 78 #[exV x0 xa xc,rv] W fun e w'=>e=.returned (.int .i64 v0) /\ Keeps zA W w')
 (hv1:∀ W xa xc,Keeps zA w W -> zN W F x1.args xa -> Calls Tryz.prog 78 #[exV x1 xa xc,rv] W fun e w'=>e=.returned (.int .i64 v1) /\ Keeps zA W w')
 (hk:5 <= k /\ k <= 17) :
 Calls Tryz.prog 78 #[.agg #[.int .i64 k, .int .i64 num, .string nm, .slice ad 2 cap],rv] w fun e w'=>e=.returned (.int .i64 (zDA k v0 v1)) /\ Keeps zA w w':=by
 obtain ⟨res,hres⟩:=eX (zDA k v0 v1);rw [<- hres];have HRES:=yB hres;clear hres;obtain ⟨g,o,xa0,xc0,rfl,hg0,c0,c1,c2,c3,hxx⟩:=hx.at (i:=0) (Nat.succ_pos _);have H0:Ret w 78 #[.agg #[.int .i64 x0.kind, .int .i64 x0.num, .string x0.nm, .slice xa0 x0.args.length xc0],rv] (.int .i64 v0):=fun W hk=>hv0 W xa0 xc0 hk (xY hxx hk (fun _ _ h=>h))
 have d0:∀ W,Keeps zA w W -> W.cell? ⟨g,o+0,none⟩=some (.int .i64 x0.kind) /\ W.cell? ⟨g,o+1,none⟩=some (.int .i64 x0.num) /\ W.cell? ⟨g,o+2,none⟩=some (.string x0.nm) /\ W.cell? ⟨g,o+3,none⟩=some (.slice xa0 x0.args.length xc0):=fun W q=>⟨q.cell (fun h=>h) c0,q.cell (fun h=>h) c1,q.cell (fun h=>h) c2,q.cell (fun h=>h) c3⟩
 have HGW0:Hid (g < w.heap.size):=xP w _ c0;generalize x0.kind=p0 at H0 d0;generalize x0.num=m0 at H0 d0;generalize x0.nm=s0 at H0 d0;generalize x0.args.length=z0 at H0 d0;clear c0 c1 c2 c3 hxx hv0 hg0;obtain ⟨g,o,xa1,xc1,q1,hg1,c0,c1,c2,c3,hxx⟩:=hx.at (i:=1) (Nat.lt_succ_self 1);cases q1;have H1:Ret w 78 #[.agg #[.int .i64 x1.kind, .int .i64 x1.num, .string x1.nm, .slice xa1 x1.args.length xc1],rv] (.int .i64 v1):=fun W hk=>hv1 W xa1 xc1 hk (xY hxx hk (fun _ _ h=>h))
 have d1:∀ W,Keeps zA w W -> W.cell? ⟨g,o+4,none⟩=some (.int .i64 x1.kind) /\ W.cell? ⟨g,o+5,none⟩=some (.int .i64 x1.num) /\ W.cell? ⟨g,o+6,none⟩=some (.string x1.nm) /\ W.cell? ⟨g,o+7,none⟩=some (.slice xa1 x1.args.length xc1):=fun W q=>⟨q.cell (fun h=>h) c0,q.cell (fun h=>h) c1,q.cell (fun h=>h) c2,q.cell (fun h=>h) c3⟩
 have HGW1:Hid (g < w.heap.size):=xP w _ c0;generalize x1.kind=p1 at H1 d1;generalize x1.num=m1 at H1 d1;generalize x1.nm=s1 at H1 d1;generalize x1.args.length=z1 at H1 d1;clear c0 c1 c2 c3 hxx hv1 hg1;rw [vF] at d0;clear hx;go_enter Tryz.func78,Tryz.ntmps78
 go_upto_region 1 with fail
 obtain ⟨b1,w1,e1,e2,R1,K1,S1⟩:=newRow w [.int .i64 k, .int .i64 num, .string nm, .slice (some ⟨g,o,none⟩) 2 cap] 65;rw [e1,e2];go_upto_region 2 with fail
 obtain ⟨b2,w2,e3,e4,R2,K2,S2⟩:=newRow w1 [.int .i64 0, .int .i64 0] 177;rw [e3,e4];have N:Hid (w.heap.size <= b2):=by show _ <= _;rw [<- e3];exact K1.size
 have K02:Hid (Keeps zA w w2):=K1.zB K2;have hR1:=yB (R1.keeps K2 (fun h=>h));have hN1:Hid (b1 < b2):=by show _ < _;rw [<- e3];exact R1.lt (by simp)
 clear e1 e2 e3 e4 S1 S2 K1 K2 R1;have y:=hR1.out.zB0;replace d0:=fun W q=>d0 W (K02.out.zB q)
 replace d1:=fun W q=>d1 W (K02.out.zB q)
 have k2:=zH w2;go_wp2_with fail
 refine uT 3 ?_
 rw [uH];go_upto_region 5 with fail
 obtain ⟨b3,w3,e1,e2,R3,K3,S3⟩:=newRow w2 [.int .i64 p0, .int .i64 m0, .string s0, .slice xa0 z0 xc0] 65;rw [e1,e2];have K03:Keeps zA w w3:=K02.out.zB K3;clear e1 e2 S3 k2;have y3:=R3.zB0;have k3:=zH w3;have hf:=zV ((R2.keeps K3 (fun h=>h)).cell (k:=0) rfl);have hz:∀ W,Keeps zA w3 W -> W.frozen? ⟨b2,0,none⟩=false:=fun W q=>((R2.keeps K3 (fun h=>h)).keeps q (fun h=>h)).free (k:=0) (by simp)
 go_upto_region 6 with (go_at_call 78;refine H0.call K03 ?_;intro w4 K04 K34)
 have R4:=((R2.keeps K3 (fun h=>h)).keeps K34 (fun h=>h)).set 0 (by simp) (.int .i64 v0);have K45:Keeps (fun q=>q=b2) w4 (w4.setCell ⟨b2,0,none⟩ (.int .i64 v0)):=(yC (fun q=>q=b2) w4).setCell (p:=⟨b2,0,none⟩) (fun _=>rfl) _;generalize w4.setCell ⟨b2,0,none⟩ (.int .i64 v0)=w5_0 at R4 K45 ⊢;have K05:Hid (Keeps zA w w5_0):=K04.trans K45 (fun q hq e=>by exact J252 _);have hR5:=yB (((hR1.out.keeps K3 (fun h=>h)).keeps K34 (fun h=>h)).keeps K45 (fun e=>by have e':b1=b2:=e;have:=hN1.out;omega));have R5:zC w5_0 b2 [.int .i64 v0, .int .i64 0]:=R4;have hg5:¬ g=b2:=by have h2:=N.out;have h3:=HGW0.out;omega
 replace d1:∀ W,Keeps zA w5_0 W -> W.cell? ⟨g,o+4,none⟩=some (.int .i64 p1) /\ W.cell? ⟨g,o+5,none⟩=some (.int .i64 m1) /\ W.cell? ⟨g,o+6,none⟩=some (.string s1) /\ W.cell? ⟨g,o+7,none⟩=some (.slice xa1 z1 xc1):=fun W q=>by obtain ⟨h0,h1,h2,h3⟩:=d1 w4 (K3.zB K34);exact ⟨q.cell (fun h=>h) (K45.cell (p:=⟨g,o+4,none⟩) hg5 h0),q.cell (fun h=>h) (K45.cell (p:=⟨g,o+5,none⟩) hg5 h1),q.cell (fun h=>h) (K45.cell (p:=⟨g,o+6,none⟩) hg5 h2),q.cell (fun h=>h) (K45.cell (p:=⟨g,o+7,none⟩) hg5 h3)⟩
 clear hg5;clear y hf hz y3 k3 K03 K04 R3 R4 hR1 R2 K34 K45 K3 d0 K02;have hR1:=hR5;have R2:=R5;have K02:=K05;clear hR5 R5 K05;have y:=hR1.out.zB0;have k2:=zH w5_0;go_wp2_with fail
 rw [uH];go_upto_region 5 with fail
 obtain ⟨b3,w3,e1,e2,R3,K3,S3⟩:=newRow w5_0 [.int .i64 p1, .int .i64 m1, .string s1, .slice xa1 z1 xc1] 65;rw [e1,e2];have K03:Keeps zA w w3:=K02.out.zB K3;clear e1 e2 S3 k2;have y3:=R3.zB0;have k3:=zH w3;have hf:=zV ((R2.keeps K3 (fun h=>h)).cell (k:=1) rfl);have hz:∀ W,Keeps zA w3 W -> W.frozen? ⟨b2,1,none⟩=false:=fun W q=>((R2.keeps K3 (fun h=>h)).keeps q (fun h=>h)).free (k:=1) (by simp)
 go_upto_region 6 with (go_at_call 78;refine H1.call K03 ?_;intro w4 K04 K34)
 have R4:=((R2.keeps K3 (fun h=>h)).keeps K34 (fun h=>h)).set 1 (by simp) (.int .i64 v1);have K45:Keeps (fun q=>q=b2) w4 (w4.setCell ⟨b2,1,none⟩ (.int .i64 v1)):=(yC (fun q=>q=b2) w4).setCell (p:=⟨b2,1,none⟩) (fun _=>rfl) _;generalize w4.setCell ⟨b2,1,none⟩ (.int .i64 v1)=w5_1 at R4 K45 ⊢;have K05:Hid (Keeps zA w w5_1):=K04.trans K45 (fun q hq e=>by exact J252 _);have hR5:=yB (((hR1.out.keeps K3 (fun h=>h)).keeps K34 (fun h=>h)).keeps K45 (fun e=>by have e':b1=b2:=e;have:=hN1.out;omega));have R5:zC w5_1 b2 [.int .i64 v0, .int .i64 v1]:=R4;clear y hf hz y3 k3 K03 K04 R3 R4 hR1 R2 K34 K45 K3 d1 K02;have hR1:=hR5;have R2:=R5;have K02:=K05;clear hR5 R5 K05;have y:=hR1.out.zB0;have k2:=zH w5_1;go_wp2_with fail
 rw [uH];have y2:=R2.all2;go_upto_region 7 with fail
 go_quiet (fail)
 have kq:=k2.drewN;by_cases h10:10 <= k
 ·rcases (show k=10 \/ k=11 \/ k=12 \/ k=13 \/ k=14 \/ k=15 \/ k=16 \/ k=17 by omega) with rfl | rfl | rfl | rfl | rfl | rfl | rfl | rfl
  all_goals (
   go_wp2_with (first | (go_at_call 102;refine (zKZ _ v0 v1 (by decide) _).mono ?_;rintro e w6 ⟨rfl,rfl⟩) | (go_at_call 101;refine (zJg _ _).mono ?_;rintro e w6 ⟨rfl,rfl⟩))
   go_ret
   exact ⟨by rw [HRES.out,zCB v0 v1 (by decide)];rfl,K02.out.drewN _⟩)
 ·rcases (show k=5 \/ k=6 \/ k=7 \/ k=8 \/ k=9 by omega) with rfl | rfl | rfl | rfl | rfl
  ·exact J69 _
  ·exact J69 _
  ·exact J69 _
  all_goals (
   by_cases hz:v1=0
   ·subst hz
    exact J69 _
   ·go_wp2_with fail
    go_ret
    exact ⟨by rw [HRES.out];simp [zDA,w64,hz],K02.out.drewN _⟩)
theorem Ex.zLe (regs:List Int) (x:Ex):x.val regs=if x.kind=1 then x.num else if x.kind=2 then regs.getD x.num.toNat 0 else if x.kind=3 then w64 (-((Ex.zCg regs x.args).getD 0 0)) else if x.kind=4 then zD7 (decide ((Ex.zCg regs x.args).getD 0 0=0)) else zDA x.kind ((Ex.zCg regs x.args).getD 0 0) ((Ex.zCg regs x.args).getD 1 0):=by
 cases x;rw [Ex.val];rfl
theorem zEw (regs:List Int) (n:Int) (rv:Value) (hl:regs.length=n.toNat):∀ (x:Ex) (w:World) (F:Nat -> Prop) (ad:Option Addr) (cap:Nat),zN w F x.args ad -> zAD w rv regs.length (ints regs) -> x.may n=true →
 Calls Tryz.prog 78 #[exV x ad cap,rv] w fun e w'=>e=.returned (.int .i64 (x.val regs)) /\ Keeps zA w w':=by
 refine Ex.ind (fun k num nm l ih w F ad cap h hr hm=>?_)
 obtain ⟨h1,h2⟩:=Ex.zDI hm;have hlf:zAK k num nm l.length n=true:=h1;have hml:Ex.zAM n l=true:=h2;have hL:zN w F l ad:=h;rw [Ex.zLe];show Calls _ _ #[.agg #[.int .i64 k, .int .i64 num, .string nm, .slice ad l.length cap],_] _ (fun e w'=>e=.returned (.int .i64 (if k=1 then num else if k=2 then regs.getD num.toNat 0 else if k=3 then w64 (-((Ex.zCg regs l).getD 0 0)) else if k=4 then zD7 (decide ((Ex.zCg regs l).getD 0 0=0)) else zDA k ((Ex.zCg regs l).getD 0 0) ((Ex.zCg regs l).getD 1 0))) /\ _)
 have hsub:∀ y,y ∈ l -> ∀ W xa xc,Keeps zA w W -> zN W F y.args xa -> Calls Tryz.prog 78 #[exV y xa xc,rv] W fun e w'=>e=.returned (.int .i64 (y.val regs)) /\ Keeps zA W w':=fun y hy W xa xc hk hx=>ih y hy W F xa xc hx (hr.keeps hk (fun _ _ h=>h)) (Ex.zId hml hy)
 rcases zEi hlf with ⟨rfl,h0⟩ | ⟨rfl,h0,h3,h4⟩ | ⟨hk,h0⟩ | ⟨k1,k2,h0⟩
 ·rw [h0]
  have:=zIb 1 num nm regs n w ad cap rv hr hl (.inl rfl)
  simpa using this
 ·rw [h0]
  have:=zIb 2 num nm regs n w ad cap rv hr hl (.inr ⟨rfl,h3,h4⟩)
  simpa using this
 ·match l,h0,hL,hsub with
  | [x0],_,hL,hsub =>
    have:=val_one k num nm x0 w F ad cap rv (x0.val regs) hL (hsub x0 (by simp)) hk
    rcases hk with rfl | rfl
    ·simpa [zEB,Ex.zCg] using this
    ·simpa [zEB,Ex.zCg] using this
 ·match l,h0,hL,hsub with
  | [x0,x1],_,hL,hsub =>
    have:=val_two k num nm x0 x1 w F ad cap rv (x0.val regs) (x1.val regs) hL (hsub x0 (by simp)) (hsub x1 (by simp)) ⟨k1,k2⟩
    rw [if_neg (by omega),if_neg (by omega),if_neg (by omega),if_neg (by omega)];simpa [Ex.zCg] using this
end Go.Proofs.YtfokdllgnblamaaGreatDoor
