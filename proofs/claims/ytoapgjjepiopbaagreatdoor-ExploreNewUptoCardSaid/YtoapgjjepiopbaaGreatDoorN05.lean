/- Layer N: texts joined. -/
import Derived.Test.YtoapgjjepiopbaaGreatDoorN04
set_option linter.all false
set_option maxHeartbeats 2000000
set_option maxRecDepth 8000
namespace Go.Proofs.YtoapgjjepiopbaaGreatDoor
open Go.RowKit
theorem J3 (P:Prop) (h:P:=by
 clear hd;go_wp2_with fail
 exact hK _ _ (Keeps.refl _ _) rfl):P:=h
theorem J102 (P:Prop) (h:P:=by
 clear hd;go_wp2_with fail
 exact hK _ _ ((Keeps.refl _ _).alloc _) ⟨_,rfl,zC.zG (heap_alloc_new W _)⟩):P:=h
theorem J105 (P:Prop) (h:P:=by
 rcases hf with hf | ⟨hf,h6,h7⟩
 ·exact .inl hf
 ·exact .inr ⟨hf,Nat.lt_of_lt_of_le h6 hk.size,h7⟩):P:=h
theorem J123 (P:Prop) (h:P:=by
 have e4:vs 4=_:=hd 4 (by kernel_rfl);rw [e4] at hK ⊢;exact J3 _):P:=h
theorem J126 (P:Prop) (h:P:=by
 have e3:vs 3=_:=hd 3 (by kernel_rfl);rw [e3] at hK ⊢;exact J3 _):P:=h
theorem J133 (P:Prop) (h:P:=by
 have e9:vs 9=_:=hd 9 (by kernel_rfl);rw [e9] at hK ⊢;exact J3 _):P:=h
theorem J141 (P:Prop) (h:P:=by
 have e8:vs 8=_:=hd 8 (by kernel_rfl);rw [e8] at hK ⊢;exact J3 _):P:=h
theorem J148 (P:Prop) (h:P:=by
 have e6:vs 6=_:=hd 6 (by kernel_rfl);have e7:vs 7=_:=hd 7 (by kernel_rfl);rw [e6,e7] at hK ⊢;exact J3 _):P:=h
theorem J176 (P:Prop) (h:P:=by have h1:=HAW.out.2.1;rw [HLEN.out] at h1;exact h1):P:=h
theorem J184 (P:Prop) (h:P:=by intro q hq;simp only [List.mem_cons,List.not_mem_nil,or_false] at hq;rcases hq with rfl | rfl | rfl | rfl | rfl | rfl | rfl | rfl | rfl | rfl <;> rfl):P:=h
theorem J200 (P:Prop) (h:P:=by rw [HLEN.out];exact HAO.out):P:=h
def acB (f:Fl) (reg regs obj most count:Int) (m z:Bool) (nt ne:Nat):Bool :=
 (if f.reg then decide (0 <= reg)&&decide (reg < regs) else reg==0)&&(if f.name then decide (0 <= obj)&&decide (obj < most) else obj==0)&&(if f.ex then m else z) &&
 (if f.count then decide (0 <= count)&&decide (count <= 1000) else count==0)&&(f.thn || nt==0)&&(f.els || ne==0)
theorem zDi (u:Un) (regs k reg obj:Int) (ex:Ex) (count:Int) (nt ne:Nat) :
 zAr u regs k reg obj ex count nt ne=(decide (1 <= k)&&decide (k <= 11)&&acB (fields k) reg regs obj (zAv u k) count (ex.may regs) ex.none nt ne):=by
 unfold zAr acB;simp only [Bool.and_assoc]
theorem zC.ten {w:World} {g:Nat} {a b c d e f h i j k:Value} (r:zC w g [a,b,c,d,e,f,h,i,j,k]) :
 w.cell? ⟨g,0,none⟩=some a /\ w.cell? ⟨g,1,none⟩=some b /\ w.cell? ⟨g,2,none⟩=some c /\ w.cell? ⟨g,3,none⟩=some d /\ w.cell? ⟨g,4,none⟩=some e /\ w.cell? ⟨g,5,none⟩=some f /\ w.cell? ⟨g,6,none⟩=some h ∧
 w.cell? ⟨g,7,none⟩=some i /\ w.cell? ⟨g,8,none⟩=some j /\ w.cell? ⟨g,9,none⟩=some k :=
 ⟨r.cell rfl,r.cell rfl,r.cell rfl,r.cell rfl,r.cell rfl,r.cell rfl,r.cell rfl,r.cell rfl,r.cell rfl,r.cell rfl⟩
theorem zC.three {w:World} {g:Nat} {a b c:Value} (r:zC w g [a,b,c]):w.cell? ⟨g,0,none⟩=some a /\ w.cell? ⟨g,1,none⟩=some b /\ w.cell? ⟨g,2,none⟩=some c :=
 ⟨r.cell rfl,r.cell rfl,r.cell rfl⟩
theorem zC.four {w:World} {g:Nat} {a b c d:Value} (r:zC w g [a,b,c,d]):w.cell? ⟨g,0,none⟩=some a /\ w.cell? ⟨g,1,none⟩=some b /\ w.cell? ⟨g,2,none⟩=some c /\ w.cell? ⟨g,3,none⟩=some d :=
 ⟨r.cell rfl,r.cell rfl,r.cell rfl,r.cell rfl⟩
def ints (xs:List Int):List Value:=xs.map (Value.int .i64)
theorem zCX (xs:List Int):(ints xs).length=xs.length:=by simp [ints]
theorem zCd (xs:List Int) (k:Nat) (hk:k < xs.length):(ints xs)[k]?=some (.int .i64 (xs.getD k 0)):=by simp [ints,List.getD,hk]
theorem ints_set (xs:List Int) (k:Nat) (u:Int):(ints xs).set k (.int .i64 u)=ints (xs.set k u):=by simp [ints,List.map_set]
abbrev Ret (w:World) (f:FuncId) (a:Array Value) (v:Value):Prop:=Hid (∀ W,Keeps zA w W -> Calls Tryz.prog f a W fun e w'=>e=.returned v /\ Keeps zA W w')
theorem Ret.call {w W:World} {f:FuncId} {a:Array Value} {v:Value} {Q:Ending -> World -> Prop} (H:Ret w f a v) (K:Keeps zA w W) (h:∀ w',Keeps zA w w' -> Keeps zA W w' -> Q (.returned v) w'):Calls Tryz.prog f a W Q :=
 (H.out W K).mono fun e w' ⟨he,hk⟩=>by rw [he];exact h w' (K.zB hk) hk
theorem newRow (w:World) (cs:List Value) (t:TypeId):∃ b w1,w.heap.size=b /\ w.alloc (.cells cs.toArray t)=w1 /\ zC w1 b cs /\ Keeps zA w w1 /\ Hid (w1.heap.size=b+1) :=
 ⟨_,_,rfl,rfl,zC.zG (heap_alloc_new w _),(Keeps.refl _ _).alloc _,by show _=_;simp⟩
namespace zC
variable {w:World} {g:Nat} {a b c d e f h i j k:Value}
theorem all1 (r:zC w g [a]):∀ W,Keeps zA w W -> W.cell? ⟨g,0,none⟩=some a:=fun W q=>(r.keeps q (fun h=>h)).cell (k:=0) rfl
theorem all2 (r:zC w g [a,b]):∀ W,Keeps zA w W -> W.cell? ⟨g,0,none⟩=some a /\ W.cell? ⟨g,1,none⟩=some b:=fun W q=>⟨(r.keeps q (fun h=>h)).cell (k:=0) rfl,(r.keeps q (fun h=>h)).cell (k:=1) rfl⟩
theorem zAo (r:zC w g [a,b,c]):∀ W,Keeps zA w W -> W.cell? ⟨g,0,none⟩=some a /\ W.cell? ⟨g,1,none⟩=some b /\ W.cell? ⟨g,2,none⟩=some c:=fun W q=>(r.keeps q (fun h=>h)).three
theorem zAh (r:zC w g [a,b,c,d]):∀ W,Keeps zA w W -> W.cell? ⟨g,0,none⟩=some a /\ W.cell? ⟨g,1,none⟩=some b /\ W.cell? ⟨g,2,none⟩=some c /\ W.cell? ⟨g,3,none⟩=some d:=fun W q=>(r.keeps q (fun h=>h)).four
theorem zl (r:zC w g [a,b,c,d,e,f,h,i,j,k]):∀ W,Keeps zA w W -> W.cell? ⟨g,0,none⟩=some a /\ W.cell? ⟨g,1,none⟩=some b /\ W.cell? ⟨g,2,none⟩=some c /\ W.cell? ⟨g,3,none⟩=some d /\ W.cell? ⟨g,4,none⟩=some e /\ W.cell? ⟨g,5,none⟩=some f /\ W.cell? ⟨g,6,none⟩=some h /\ W.cell? ⟨g,7,none⟩=some i /\ W.cell? ⟨g,8,none⟩=some j /\ W.cell? ⟨g,9,none⟩=some k:=fun W q=>(r.keeps q (fun h=>h)).ten
end zC
theorem zL {w:World} {p:Addr} {v:Value} (h:w.cell? p=some v):∀ W,Keeps zA w W -> W.cell? p=some v:=fun W q=>q.cell (fun h=>h) h
theorem zH (w:World):Keeps zA w w:=Keeps.refl _ _
theorem zS {w:World} {base e size n:Nat} {v:Value} {xs:List Value} (h:w.ownsRow base e size v n xs) {kb:Nat} (hv:v.ownBlock=some kb):kb < w.heap.size:=by
 rcases h.2 with ⟨rfl,_⟩ | ⟨g,cap,cur,rfl,_,hg,_⟩
 ·simp [Value.ownBlock] at hv
 ·simp [Value.ownBlock] at hv
  subst hv;exact lt_of_block hg
abbrev zBA (α:Type):=World -> (Nat -> Prop) -> α -> List Value -> Prop
structure zAN {α:Type} (R:zBA α) (sz:Nat):Prop where
 keeps:∀ {S F:Nat -> Prop} {w w':World} {x:α} {cs:List Value},R w F x cs -> Keeps S w w' -> (∀ k,F k -> ¬ S k) -> R w' F x cs
 mono:∀ {F F':Nat -> Prop} {w:World} {x:α} {cs:List Value},R w F x cs -> (∀ k,F k -> F' k) -> R w F' x cs
 len:∀ {F:Nat -> Prop} {w:World} {x:α} {cs:List Value},R w F x cs -> cs.length=sz
def zB6 (G:Nat -> Prop) (B:Nat) (w:World) (v:Value) (k:Nat):Prop:=G k \/ (B <= k /\ k < w.heap.size /\ v.ownBlock ≠ some k)
def Acc {α:Type} (R:zBA α) (G:Nat -> Prop) (B sz:Nat) (ty:TypeId) (w:World) (v:Value) (xs:List α) (css:List (List Value)):Prop :=
 css.length=xs.length /\ w.ownsRow 0 ty sz v xs.length css.flatten /\ (∀ kb,v.ownBlock=some kb -> B <= kb) /\ (∃ ad cap,v=.slice ad xs.length cap) /\ ∀ (i:Nat) (x:α) (cs:List Value),xs[i]?=some x -> css[i]?=some cs -> R w (zB6 G B w v) x cs
section
variable {α:Type} {R:zBA α} {G:Nat -> Prop} {B sz:Nat} {ty:TypeId} {w w':World} {v:Value} {xs:List α} {css:List (List Value)}
theorem Acc.nil (w:World):Acc R G B sz ty w (.slice none 0 0) [] [] :=
 ⟨rfl,World.ownsRow_nil _ _ _ _,fun kb e=>by exact J152 _,⟨none,0,rfl⟩,fun i x cs e=>by simp at e⟩
theorem Acc.keeps (L:zAN R sz) (h:Acc R G B sz ty w v xs css) {S:Nat -> Prop} (hk:Keeps S w w') (hS:∀ k,S k -> k < B /\ ¬ G k):Acc R G B sz ty w' v xs css:=by
 obtain ⟨h1,h2,h3,h4,h5⟩:=h;refine ⟨h1,zF h2 hk (fun k e hs=>?_),h3,h4,fun i x cs e1 e2=>?_⟩
 ·have:=h3 k e;have:=(hS k hs).1;omega
 ·refine L.mono (L.keeps (h5 i x cs e1 e2) hk (fun k hf hs=>?_)) (fun k hf=>?_)
  ·rcases hf with hf | ⟨hf,_,_⟩
   ·exact (hS k hs).2 hf
   ·have:=(hS k hs).1;omega
  ·exact J105 _
theorem Acc.zD (L:zAN R sz) (h:Acc R G B sz ty w v xs css) (hk:Keeps zA w w'):Acc R G B sz ty w' v xs css:=h.keeps L hk (fun k h=>h.elim)
theorem Acc.push (L:zAN R sz) (h:Acc R G B sz ty w v xs css) (hG:∀ k,G k -> k < B) (hB:B <= w.heap.size) {x:α} {cs:List Value} {ad:Option Addr} {cap:Nat} (hx:R w (zB6 G B w v) x cs) (hsz:0 < sz)
 (ha:zi w 0 ty sz v (xs.length+1) (css.flatten++cs) ad cap w'):Acc R G B sz ty w' (.slice ad (xs.length+1) cap) (xs++[x]) (css++[cs]):=by
 obtain ⟨h1,h2,h3,h4,h5⟩:=h;obtain ⟨a1,a2,a3⟩:=ha;have hk:Keeps (fun q=>v.ownBlock=some q) w w':=zi.keeps ⟨a1,a2,a3⟩ (Keeps.refl _ _) (fun q e _=>e);have hnew:∀ kb,(Value.slice ad (xs.length+1) cap).ownBlock=some kb -> v.ownBlock=some kb \/ kb=w.heap.size:=a3
 have key:∀ y ds,R w (zB6 G B w v) y ds -> R w' (zB6 G B w' (.slice ad (xs.length+1) cap)) y ds:=fun y ds hy=>by
  refine L.mono (L.keeps hy hk (fun k hf hs=>?_)) (fun k hf=>?_)
  ·rcases hf with hf | ⟨_,_,h7⟩
   ·have:=h3 k hs;have:=hG k hf;omega
   ·exact h7 hs
  ·rcases hf with hf | ⟨hf,h6,h7⟩
   ·exact .inl hf
   ·refine .inr ⟨hf,Nat.lt_of_lt_of_le h6 hk.size,fun e=>?_⟩
    rcases hnew k e with h8 | h8
    ·exact h7 h8
    ·omega
 refine ⟨by simp [h1],?_,fun kb e=>?_,⟨ad,cap,by simp⟩,fun i y ds e1 e2=>?_⟩
 ·have e:(css++[cs]).flatten=css.flatten++cs:=by simp
  rw [e,List.length_append,List.length_singleton];exact a1
 ·rcases hnew kb e with h8 | h8
  ·exact h3 kb h8
  ·omega
 ·rcases Nat.lt_or_ge i xs.length with hi | hi
  ·rw [List.getElem?_append_left hi] at e1
   rw [List.getElem?_append_left (by omega)] at e2;exact key y ds (h5 i y ds e1 e2)
  ·have hi2:i=xs.length:=by
    have:=(List.getElem?_eq_some_iff.1 e1).1
    simp at this
    omega
   subst hi2;have e1':x=y:=by rw [List.getElem?_append_right (Nat.le_refl _),Nat.sub_self] at e1;simpa using e1
   have e2':cs=ds:=by rw [List.getElem?_append_right (by omega)] at e2;simpa [h1] using e2
   subst e1' e2';exact key x cs hx
theorem Acc.elems (L:zAN R sz) (h:Acc R G B sz ty w v xs css) {ad:Option Addr} {n cap:Nat} (hv:v=.slice ad n cap) :
 zAx w (fun k=>G k \/ (B <= k /\ k < w.heap.size)) sz xs.length ad (fun i=>css.getD i []) /\ ∀ (i:Nat) (x:α),xs[i]?=some x -> R w (fun k=>G k \/ (B <= k /\ k < w.heap.size)) x (css.getD i []):=by
 obtain ⟨h1,h2,h3,h4,h5⟩:=h
 have hc:∀ i,i < xs.length -> css[i]?=some (css.getD i []):=fun i hi=>by
  rw [List.getElem?_eq_getElem (by omega)];simp [List.getD,show i < css.length by omega]
 have hR:∀ (i:Nat) (x:α),xs[i]?=some x -> R w (zB6 G B w v) x (css.getD i []):=fun i x e=>h5 i x _ e (hc i (List.getElem?_eq_some_iff.1 e).1)
 refine ⟨fun i hi=>?_,fun i x e=>L.mono (hR i x e) (fun k hf=>?_)⟩
 ·rcases h2.2 with ⟨_,hn⟩ | ⟨g,cap',cur,hv',hr⟩
  ·omega
  ·have hv2:v=.slice (some ⟨g,0,none⟩) xs.length cap':=hv'
   rw [hv] at hv2;obtain ⟨rfl,_,_⟩:ad=some ⟨g,0,none⟩ /\ n=xs.length /\ cap=cap':=by simpa using hv2
   have hlen:(css.getD i []).length=sz:=L.len (hR i xs[i] (List.getElem?_eq_getElem hi))
   have hall:∀ ds,ds ∈ css -> ds.length=sz:=fun ds hds=>by
    obtain ⟨j,hj,e⟩:=List.mem_iff_getElem.1 hds;have hj2:j < xs.length:=by omega
    have:=L.len (h5 j xs[j] ds (List.getElem?_eq_getElem hj2) (by rw [List.getElem?_eq_getElem hj,e]))
    exact this
   have hg:g < w.heap.size:=zS h2 (by rw [hv'];rfl);refine ⟨g,0,rfl, .inr ⟨h3 g (by rw [hv'];rfl),hg⟩,hlen,fun j u hj=>?_⟩
   rw [hv'] at h2;have hr:=zC.zAM h2;have hj2:j < sz:=by rw [<- hlen];exact (List.getElem?_eq_some_iff.1 hj).1
   rw [Nat.zero_add];refine hr.cell ?_
   have hfm:css.flatten=css.flatMap id:=by simp [List.flatMap_id]
   have key:∀ (l:List (List Value)) (i j:Nat),(∀ ds,ds ∈ l -> ds.length=sz) -> j < sz -> l.flatten[i*sz+j]?=(l[i]?).bind fun ds=>ds[j]?:=by
    intro l
    induction l with
    | nil=>intro i j _ _;simp
    | cons x r ih =>
      intro i j hl hj
      rw [List.flatten_cons];have hx:=hl x (List.mem_cons_self ..);cases i with
      | zero=>rw [Nat.zero_mul,Nat.zero_add,List.getElem?_append_left (by omega)];simp
      | succ i =>
        have e:(i+1)*sz+j=x.length+(i*sz+j):=by rw [hx,Nat.add_mul];omega
        rw [e,List.getElem?_append_right (by omega),Nat.add_sub_cancel_left,ih i j (fun ds h=>hl ds (List.mem_cons_of_mem _ h)) hj];simp
   rw [key css i j hall hj2,hc i hi];exact hj
 ·rcases hf with hf | ⟨hf,h6,_⟩
  ·exact .inl hf
  ·exact .inr ⟨hf,h6⟩
end
theorem zMV:zAN zA5 4:=⟨fun h=>h.keeps,fun h=>h.mono,fun h=>h.len⟩
theorem zHM:zAN zBN 10:=⟨fun h=>h.keeps,fun h=>h.mono,fun h=>h.len⟩
def zA3 (L:List (Option Value)) (Sp:Nat -> Value -> World -> Prop) (j:Nat) (v:Value) (W:World):Prop :=
 match L[j]? with
 | some (some u)=>v=u
 | _=>Sp j v W
theorem zA3.st {L:List (Option Value)} {Sp:Nat -> Value -> World -> Prop} (hs:∀ j v W W',Sp j v W -> Keeps zA W W' -> Sp j v W') (j:Nat) (v:Value) (W W':World) (h:zA3 L Sp j v W) (hk:Keeps zA W W'):zA3 L Sp j v W':=by
 unfold zA3 at *;split at h
 ·exact h
 ·exact hs _ _ _ _ h hk
theorem take_at {α:Type} {l:List α} {i:Nat} (h:i < l.length):l.take (i+1)=l.take i++[l[i]]:=by rw [List.take_add_one,List.getElem?_eq_getElem h];rfl
mutual
def Ac.plain:Ac -> St
 | .mk k _ _ x _ t e=>.mk k zn zn x 0 (Ac.zAF t) (Ac.zAF e)
def Ac.zAF:List Ac -> List St
 | []=>[]
 | x :: r=>Ac.plain x :: Ac.zAF r
end
theorem Ac.zDf (l:List Ac):Ac.zAF l=l.map Ac.plain:=by
 induction l with
 | nil=>rfl
 | cons x r ih=>simp [Ac.zAF,ih]
theorem Ac.zLO (x:Ac):x.plain=.mk x.kind zn zn x.ex 0 (Ac.zAF x.thn) (Ac.zAF x.els):=by
 cases x;simp only [Ac.plain,Ac.kind,Ac.ex,Ac.thn,Ac.els]
theorem Ac.zCh (l:List Ac):(Ac.zAF l).length=l.length:=by rw [Ac.zDf];simp
def zCF (l:List Ac):Prop:=∀ (w:World) (F:Nat -> Prop) (ad:Option Addr) (cap:Nat),zAG w F l ad -> (∀ k,F k -> k < w.heap.size) -> Ac.szL l < 1000000000 →
 Calls Tryz.prog 49 #[.slice ad l.length cap] w fun e w'=>∃ ad' cap',e=.returned (.slice ad' l.length cap') /\ zm w' (fun k=>F k \/ (w.heap.size <= k /\ k < w'.heap.size)) (Ac.zAF l) ad' /\ Keeps zA w w'
theorem zHg:(Tryz.prog.info? 191).map (fun i=>(i.zero,i.size,i.bytes))=some (some (.agg #[.int .i64 0, .string zn, .string zn, .int .i64 0, .int .i64 0, .string zn, .slice none 0 0, .int .i64 0, .slice none 0 0, .slice none 0 0]),10,152):=by kernel_rfl
theorem info_parts {P:Program} {t:TypeId} {z:Value} {s b:Nat} (h:(P.info? t).map (fun i=>(i.zero,i.size,i.bytes))=some (some z,s,b)):∃ i,P.info? t=some i /\ i.zero=some z /\ i.size=s /\ i.bytes=b:=by
 cases hi:P.info? t with
 | none=>rw [hi] at h;cases h
 | some i =>
   rw [hi] at h;simp only [Option.map_some,Option.some.injEq,Prod.mk.injEq] at h;exact ⟨i,rfl,h.1,h.2.1,h.2.2⟩
theorem zm.mono {F F':Nat -> Prop} {w:World} {l:List St} {ad:Option Addr} (h:zm w F l ad) (hF:∀ k,F k -> F' k):zm w F' l ad:=by
 exact J80 _
theorem zC.src {w:World} {g n c:Nat} {cs:List Value} (h:zC w g cs):zU w (.slice (some ⟨g,0,none⟩) n c) n cs:=⟨_,c,rfl,fun _=>⟨g,0,rfl,h.rng⟩⟩
theorem zDs (l:List Ac) (ih:∀ y,y ∈ l -> zCF y.thn /\ zCF y.els):zCF l:=by
 intro w F ad cap h hF hb
 have HL:=Lib.hid h;have IH:=Lib.hid ih;have HF:=Lib.hid hF;have hl:=Ac.zAY l;have hb2:l.length < 1000000000:=by omega
 have HB:=Lib.hid hb;obtain ⟨j0,hj0,hz0,hz1,hz2⟩:=info_parts zHg;obtain ⟨B,hB⟩:=eX w.heap.size;have HBE:=Lib.hid hB;clear h ih hl hb hF hB;go_enter Tryz.func49,Tryz.ntmps49
 go_wp2_with fail
 go_loopw [3,4] (fun ov iv wr=>∃ (i:Nat) (da:Option Addr) (dc:Nat) (css:List (List Value)),i <= l.length /\ iv=.int .i64 i /\ ov=.slice da i dc /\ Hid (Acc zBN F B 10 191 wr (.slice da i dc) (Ac.zAF (l.take i)) css) /\ Hid (Keeps zA w wr)) (fun _ iv _=>l.length - (intOf iv).toNat)
 case atStart=>exact ⟨0,none,0,[],Nat.zero_le _,rfl,rfl,Acc.nil w,Keeps.refl _ _⟩
 case round =>
  obtain ⟨i,da,dc,css,hi,rfl,rfl,HA,HK⟩:=hrel;by_cases hlt:i < l.length
  ·have i1:(0:Int) <= i:=by omega
   have i2:(i:Int) < l.length:=by omega
   have HBR:Hid (B <= wr.heap.size):=by show _ <= _;rw [HBE.out];exact HK.out.size
   obtain ⟨g,o,xa,xc,ta,tc,ea,ec,e1,hg,d0,d1,d2,d3,d4,d5,d6,d7,d8,d9,hx,hxt,hxe⟩:=(HL.out.keeps HK.out (fun _ _ h=>h)).at hlt;subst e1;have hIHi:=IH.out _ (List.getElem_mem hlt);have hszi:l[i].sz < 1000000000:=by have:=Ac.zBk (List.getElem_mem hlt);have:=HB.out;omega
   rw [Ac.zB1] at hszi;have hlF:∀ k,F k -> k < wr.heap.size:=fun k hk=>Nat.lt_of_lt_of_le (HF.out k hk) HK.out.size
   have HT:Hid (∀ W,Keeps zA wr W -> Calls Tryz.prog 49 #[.slice ta l[i].thn.length tc] W fun e w'=>∃ ad' cap',e=.returned (.slice ad' l[i].thn.length cap') /\ zm w' (fun k=>F k \/ (W.heap.size <= k /\ k < w'.heap.size)) (Ac.zAF l[i].thn) ad' /\ Keeps zA W w') :=
    fun W hk=>hIHi.1 W F ta tc (hxt.keeps hk (fun _ _ h=>h)) (fun k hf=>Nat.lt_of_lt_of_le (hlF k hf) hk.size) (by omega)
   have HE:Hid (∀ W,Keeps zA wr W -> Calls Tryz.prog 49 #[.slice ea l[i].els.length ec] W fun e w'=>∃ ad' cap',e=.returned (.slice ad' l[i].els.length cap') /\ zm w' (fun k=>F k \/ (W.heap.size <= k /\ k < w'.heap.size)) (Ac.zAF l[i].els) ad' /\ Keeps zA W w') :=
    fun W hk=>hIHi.2 W F ea ec (hxe.keeps hk (fun _ _ h=>h)) (fun k hf=>Nat.lt_of_lt_of_le (hlF k hf) hk.size) (by omega)
   have HX:=Lib.hid hx;obtain ⟨pt,hpt⟩:=eX (Ac.zAF l[i].thn);obtain ⟨pe,hpe⟩:=eX (Ac.zAF l[i].els);have hlt2:pt.length=l[i].thn.length:=by rw [hpt,Ac.zCh]
   have hle2:pe.length=l[i].els.length:=by rw [hpe,Ac.zCh]
   obtain ⟨x,hxx⟩:=eX (l[i].ex);have HP:Hid (l[i].plain=.mk l[i].kind zn zn x 0 pt pe):=by show _=_;rw [Ac.zLO,hpt,hpe,hxx]
   rw [<- hpt] at HT;rw [<- hpe] at HE;rw [<- hlt2] at HT d8;rw [<- hle2] at HE d9;rw [<- hxx] at HX d3 d4 d5 d6;clear hIHi hszi hlF hx hxt hxe hpt hpe hlt2 hle2 hxx d1 d2 d7;generalize l[i].kind=x0 at d0 HP;obtain ⟨x3,q3⟩:=eX x.kind;obtain ⟨x4,q4⟩:=eX x.num;obtain ⟨x5,q5⟩:=eX x.nm;obtain ⟨x6,q6⟩:=eX x.args.length;obtain ⟨x8,q8⟩:=eX pt.length;obtain ⟨x9,q9⟩:=eX pe.length;have HQ:Hid (x3=x.kind /\ x4=x.num /\ x5=x.nm /\ x6=x.args.length /\ x8=pt.length /\ x9=pe.length):=⟨q3,q4,q5,q6,q8,q9⟩;rw [<- q3] at d3;rw [<- q4] at d4;rw [<- q5] at d5;rw [<- q6] at d6;rw [<- q8] at d8 HT;rw [<- q9] at d9 HE;clear q3 q4 q5 q6 q8 q9;go_upto_region 6 with (go_at_call 49;refine (HT.out _ (Keeps.refl _ _)).mono ?_;rintro e w2 ⟨ta2,tc2,rfl,s1,g1⟩;have S1:=Lib.hid s1;have G1:=Lib.hid g1;have d9':=g1.cell (p:=⟨g,o+i*10+9,none⟩) (fun h=>h) d9;clear s1 g1)
   go_upto_region 7 with (go_at_call 49;refine (HE.out _ G1.out).mono ?_;rintro e w3 ⟨ea2,ec2,rfl,s2,g2⟩;have S2:=Lib.hid s2;have G2:=Lib.hid g2;clear s2 g2)
   have HG:Hid (Keeps zA wr w3):=G1.out.zB G2.out;clear d9';refine ze 15 (by kernel_rfl) (by kernel_rfl) (Keeps zA) (Keeps.refl zA) (fun a b c h h'=>Keeps.zB h h') (zA3 [some (.slice da i dc),some (.slice (some ⟨g,o,none⟩) l.length cap),some (.int .i64 i),some (.pointer (some ⟨g,o+i*10,none⟩)),some (.pointer (some ⟨g,o+i*10,none⟩)),some (.int .i64 x0),some (.slice (some ⟨g,o,none⟩) l.length cap),some (.int .i64 i),some (.pointer (some ⟨g,o+i*10,none⟩)),some (.pointer (some ⟨g,o+i*10+3,none⟩)),some (.agg #[.int .i64 x3, .int .i64 x4, .string x5, .slice xa x6 xc]),some (.slice ta2 x8 tc2),some (.slice ea2 x9 ec2),some (.agg #[.int .i64 x0, .string zn, .string zn, .int .i64 x3, .int .i64 x4, .string x5, .slice xa x6 xc, .int .i64 0, .slice ta2 x8 tc2, .slice ea2 x9 ec2])] (fun _ v W=>∃ b,v=.slice (some ⟨b,0,none⟩) 1 1 /\ zC W b [.int .i64 x0, .string zn, .string zn, .int .i64 x3, .int .i64 x4, .string x5, .slice xa x6 xc, .int .i64 0, .slice ta2 x8 tc2, .slice ea2 x9 ec2])) (zA3.st (fun j v W W' h hk=>by obtain ⟨b,e,h1⟩:=h;exact ⟨b,e,h1.keeps hk (fun h=>h)⟩)) ?_ ?_
   ·intro q oo hq ho vs W Q' hR hd hK
    have HR':Keeps zA wr W:=HG.out.zB (((Keeps.refl zA w3).drew).zB hR);have c0:=HR'.cell (p:=⟨g,o+i*10,none⟩) (fun h=>h) d0;have c3:=HR'.cell (p:=⟨g,o+i*10+3,none⟩) (fun h=>h) d3;have c4:=HR'.cell (p:=⟨g,o+i*10+4,none⟩) (fun h=>h) d4;have c5:=HR'.cell (p:=⟨g,o+i*10+5,none⟩) (fun h=>h) d5;have c6:=HR'.cell (p:=⟨g,o+i*10+6,none⟩) (fun h=>h) d6;clear d0 d3 d4 d5 d6 d8 d9 HR';rcases (show q=0 \/ q=1 \/ q=2 \/ q=3 \/ q=4 \/ q=5 \/ q=6 \/ q=7 \/ q=8 \/ q=9 \/ q=10 \/ q=11 \/ q=12 \/ q=13 \/ q=14 by omega) with rfl | rfl | rfl | rfl | rfl | rfl | rfl | rfl | rfl | rfl | rfl | rfl | rfl | rfl | rfl
    all_goals (simp only [List.getElem?_cons_zero,List.getElem?_cons_succ,Option.some.injEq] at ho;subst ho;simp only [zJ,List.getElem?_cons_zero,List.getElem?_cons_succ,Option.bind_some,Option.bind,Act.put,List.setIfInBounds_toArray,List.set_cons_zero,List.set_cons_succ] at hK ⊢;clear hq)
    ·exact J3 _
    ·exact J3 _
    ·exact J3 _
    ·have e1:vs 1=_:=hd 1 (by kernel_rfl)
     have e2:vs 2=_:=hd 2 (by kernel_rfl);rw [e1,e2] at hK ⊢;exact J3 _
    ·exact J126 _
    ·exact J123 _
    ·exact J3 _
    ·exact J3 _
    ·exact J148 _
    ·exact J141 _
    ·exact J133 _
    ·exact J3 _
    ·exact J3 _
    ·have e5:vs 5=_:=hd 5 (by kernel_rfl)
     have e10:vs 10=_:=hd 10 (by kernel_rfl);have e11:vs 11=_:=hd 11 (by kernel_rfl);have e12:vs 12=_:=hd 12 (by kernel_rfl);rw [e5,e10,e11,e12] at hK ⊢;exact J3 _
    ·have e13:vs 13=_:=hd 13 (by kernel_rfl)
     rw [e13] at hK ⊢;exact J102 _
   ·intro vs W hR hF
    have HR':Keeps zA w3 W:=((Keeps.refl zA w3).drew).zB hR;have HKW:Hid (Keeps zA wr W):=HG.out.zB HR';have e0:vs 0=_:=hF 0 (by decide);obtain ⟨gs,e14,hgs⟩:=(hF 14 (by decide):∃ b,vs 14=.slice (some ⟨b,0,none⟩) 1 1 /\ zC W b [.int .i64 x0, .string zn, .string zn, .int .i64 x3, .int .i64 x4, .string x5, .slice xa x6 xc, .int .i64 0, .slice ta2 x8 tc2, .slice ea2 x9 ec2]);have HGS:=Lib.hid hgs;have HRW:=Lib.hid HR';simp only [zJ,List.getElem?_cons_zero,List.getElem?_cons_succ,Option.bind_some,Option.bind,Act.put,List.setIfInBounds_toArray,List.set_cons_zero,List.set_cons_succ,List.drop_succ_cons,List.drop_zero];rw [e0,e14];clear hF e0 e14;generalize vs 1=y1;generalize vs 2=y2;generalize vs 3=y3;generalize vs 4=y4;generalize vs 5=y5;generalize vs 6=y6;generalize vs 7=y7;generalize vs 8=y8;generalize vs 9=y9;generalize vs 10=y10;generalize vs 11=y11;generalize vs 12=y12;generalize vs 13=y13;clear HR' hR hgs d0 d3 d4 d5 d6 d8 d9;have HAW:Hid (Acc zBN F B 10 191 W (.slice da i dc) (Ac.zAF (l.take i)) css):=HA.out.zD zHM HKW.out;have hlen:(Ac.zAF (l.take i)).length=i:=by rw [Ac.zCh,List.length_take];omega
    have HLEN:=Lib.hid hlen;clear hlen;have i3:i+1 <= 1000000000:=by omega
    go_upto_region 4 with (at_builtin;refine zI _ (by rfl) _ _ 108 (by rfl) 0 191 j0 _ 10 152 Tryz.underlying108 hj0 hz0 hz1 hz2 rfl (by decide) (.slice da i dc) i css.flatten (by rfl) (J176 _) (.slice (some ⟨gs,0,none⟩) 1 1) 1 [.int .i64 x0, .string zn, .string zn, .int .i64 x3, .int .i64 x4, .string x5, .slice xa x6 xc, .int .i64 0, .slice ta2 x8 tc2, .slice ea2 x9 ec2] (by rfl) (zC.src HGS.out) rfl (J184 _) (by unfold maxLen;omega) (by omega) (Nat.zero_le _) ?_;intro da2 dc2 w4 ha;have HAO:=Lib.hid ha;clear ha)
    have hown:∀ kb,(Value.slice da i dc).ownBlock=some kb -> kb < wr.heap.size:=fun kb e=>zS HA.out.2.1 e
    have hel:zBN W (zB6 F B W (.slice da i dc)) l[i].plain [.int .i64 x0, .string zn, .string zn, .int .i64 x3, .int .i64 x4, .string x5, .slice xa x6 xc, .int .i64 0, .slice ta2 x8 tc2, .slice ea2 x9 ec2]:=by
     have hb:=HBR.out;have k1:=G1.out.size;have k2:=G2.out.size;have k3:=HRW.out.size;have h0:zR W (zB6 F B W (.slice da i dc)) x.args xa:=(HX.out.keeps HKW.out (fun _ _ h=>h)).mono (fun k hk=>.inl hk)
     have h1:zm W (zB6 F B W (.slice da i dc)) pt ta2:=(S1.out.keeps (G2.out.zB HRW.out) (fun _ _ h=>h)).mono (fun k hk=>by
      rcases hk with hk | ⟨h6,h7⟩
      ·exact .inl hk
      ·exact .inr ⟨by omega,by omega,fun e=>by have:=hown k e;omega⟩)
     have h2:zm W (zB6 F B W (.slice da i dc)) pe ea2:=(S2.out.keeps HRW.out (fun _ _ h=>h)).mono (fun k hk=>by
      rcases hk with hk | ⟨h6,h7⟩
      ·exact .inl hk
      ·exact .inr ⟨by omega,by omega,fun e=>by have:=hown k e;omega⟩)
     rw [HP.out];obtain ⟨q3,q4,q5,q6,q8,q9⟩:=HQ.out;rw [q3,q4,q5,q6,q8,q9];exact zBN.zE1 (St.mk x0 zn zn x 0 pt pe) h0 h1 h2
    have hBW:B <= W.heap.size:=Nat.le_trans HBR.out HKW.out.size
    have hpush:Acc zBN F B 10 191 w4 (.slice da2 (i+1) dc2) (Ac.zAF (l.take (i+1))) (css++[[.int .i64 x0, .string zn, .string zn, .int .i64 x3, .int .i64 x4, .string x5, .slice xa x6 xc, .int .i64 0, .slice ta2 x8 tc2, .slice ea2 x9 ec2]]):=by
     have h1:=HAW.out.push zHM (fun k hk=>by rw [HBE.out];exact HF.out k hk) hBW hel (by decide) (ad:=da2) (cap:=dc2) (w':=w4) (J200 _);rw [HLEN.out] at h1;have e:Ac.zAF (l.take (i+1))=Ac.zAF (l.take i)++[l[i].plain]:=by rw [Ac.zDf,Ac.zDf,take_at hlt,List.map_append];rfl
     rw [e];exact h1
    have HPU:=Lib.hid hpush;have HKE:Hid (Keeps zA w w4):=HAO.out.keeps (HK.out.zB HKW.out) (fun k e hk=>by have:=HA.out.2.2.1 k e;have:=HBE.out;omega);clear hpush hel hown hBW;go_wp2_with fail
    go_roundw
    case rel=>exact ⟨i+1,da2,dc2,css++[[.int .i64 x0, .string zn, .string zn, .int .i64 x3, .int .i64 x4, .string x5, .slice xa x6 xc, .int .i64 0, .slice ta2 x8 tc2, .slice ea2 x9 ec2]],by omega,by go_num,rfl,HPU,HKE⟩
    case measure=>simp [intOf];omega
  ·obtain rfl:i=l.length:=by omega
   go_wp2_with fail
   go_ret
   have hA:=HA.out;rw [List.take_length] at hA;obtain ⟨h1,h2⟩:=hA.elems zHM (ad:=da) (n:=l.length) (cap:=dc) rfl;rw [<- HBE.out];exact ⟨da,dc,rfl,⟨_,h1,h2⟩,HK.out⟩
theorem zM3 (l:List Ac):zCF l:=by
 have key:∀ x:Ac,zCF x.thn /\ zCF x.els:=fun x=>Ac.ind (P:=fun x=>zCF x.thn /\ zCF x.els) (fun k r o x c t e h1 h2=>⟨zDs t h1,zDs e h2⟩) x
 exact zDs l (fun y _=>key y)
end Go.Proofs.YtoapgjjepiopbaaGreatDoor
