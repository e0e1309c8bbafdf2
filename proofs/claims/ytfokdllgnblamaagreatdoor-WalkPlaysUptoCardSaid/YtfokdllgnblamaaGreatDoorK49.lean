/- Layer K: texts joined. -/
import Derived.Test.YtfokdllgnblamaaGreatDoorK46
import Derived.Test.YtfokdllgnblamaaGreatDoorK48
set_option linter.all false
set_option maxHeartbeats 4000000
set_option maxRecDepth 8000
namespace Go.Proofs.YtfokdllgnblamaaGreatDoor
open Go.RowKit
theorem J217 (P:Prop) (h:P:=by unfold zBF;rw [e];exact fun h=>by cases h):P:=h
abbrev zBa:=zAm zA8 3 138 zAk
section
variable {D N:Nat -> Prop} {w:World} {b:Nat} {u:Un} {m:zm}
theorem zBa.zN5 (h:zBa D N w b u m) (i:Int):Calls Tryz.prog 14 #[.pointer (some ⟨b,0,none⟩), .int .i64 i] w fun e w'=>e=.returned (.tuple #[evV (stepM u m i).2.1, .int .i64 (stepM u m i).2.2]) /\ zBa D N w' b u (stepM u m i).1 /\ Keeps (fun q=>¬ N q) w w' :=
 h.stepped fun _ _ _ _ h1=>zKa h1 h.right h.ok h.idle i
theorem zBa.zNM (h:zBa D N w b u m):Calls Tryz.prog 38 #[.pointer (some ⟨b,0,none⟩)] w (zEp w m):=by
 obtain ⟨T,F,p,H,h1,h2⟩:=h.ex;exact zIq h1 h.right h.ok
theorem zBa.zMK (h:zBa D N w b u m):Calls Tryz.prog 13 #[.pointer (some ⟨b,0,none⟩)] w (zBW w (zBu m)):=by
 obtain ⟨T,F,p,H,h1,h2⟩:=h.ex;exact zEd h1 h.right h.ok
end
section
variable {cs:List Int} {mu:Int} {bs:List Bd} {w:World} {F:Nat -> Prop} {uca uta:Option Addr} {ucc utc:Nat}
theorem zBp.zOW (h:zBp w F cs bs uca uta) (hr:newR ⟨cs,mu,bs⟩ ≠ 0):Calls Tryz.prog 7 #[.agg #[.slice uca cs.length ucc, .int .i64 mu, .slice uta bs.length utc]] w fun e w'=>e=.returned (.tuple #[.pointer none, .int .i64 (newR ⟨cs,mu,bs⟩)]) /\ Keeps zA w w' :=
 zNA _ hr (yB fun W hk=>(h.zD hk).zJZ)
theorem zBp.zOB (h:zBp w F cs bs uca uta) (hr:newR ⟨cs,mu,bs⟩=0):Calls Tryz.prog 7 #[.agg #[.slice uca cs.length ucc, .int .i64 mu, .slice uta bs.length utc]] w fun e w'=>∃ b,e=.returned (.tuple #[.pointer (some ⟨b,0,none⟩), .int .i64 0]) /\ zBa F (fun q=>q < w.heap.size) w' b ⟨cs,mu,bs⟩ (zCY ⟨cs,mu,bs⟩) /\ Keeps zA w w':=by
 have hR:=zF2 hr;refine (zND (T:=fun _=>none) (id:=0) h.nums h.bds (fun k x e=>by cases e) (fun k t e=>by cases e) (fun k hk=>⟨rfl,h.low k hk⟩) hR (yB fun W hk=>by have g:=(h.zD hk).zJZ (mu:=mu) (ucc:=ucc) (utc:=utc);rw [hr] at g;exact g)).mono ?_
 rintro e w' ⟨b,T',p,H,rfl,h1,h2,h3⟩
 exact ⟨b,rfl,zAm.new zR zo hR h1 h2 h3 (fun q e=>.inl e),h3⟩
end
abbrev PMa:=(Nat -> Prop) -> (Nat -> Prop) -> World -> Prop
def Moves (X:PMa):Prop:=∀ D N S w w',X D N w -> Keeps S w w' -> (∀ q,S q -> N q /\ ¬ D q) -> X D (fun q=>N q \/ (w.heap.size <= q /\ q < w'.heap.size)) w'
structure Room (P:Nat -> PMa) (L:Nat -> Prop) (w:World):Prop where
 mv:∀ i,Moves (P i)
 ex:∃ D N:Nat -> Nat -> Prop,(∀ i,P i (D i) (N i) w) /\ (∀ i j q,i ≠ j -> q < w.heap.size -> N i q \/ N j q) /\ (∀ i j q,i ≠ j -> D i q -> N j q) /\ (∀ i q,L q -> N i q) /\ ∀ i q,D i q -> q < w.heap.size
 low:∀ q,L q -> q < w.heap.size
section
variable {P P':Nat -> PMa} {L L' F:Nat -> Prop} {w w':World}
theorem Room.zMA (h:Room P L w) (hk:Keeps zA w w'):Room P (fun q=>L q \/ (w.heap.size <= q /\ q < w'.heap.size)) w':=by
 obtain ⟨D,N,h1,h2,h3,h4,h5⟩:=h.ex;refine ⟨h.mv,⟨D,fun i q=>N i q \/ (w.heap.size <= q /\ q < w'.heap.size),fun i=>h.mv i _ _ _ _ _ (h1 i) hk (fun _ h=>h.elim),fun i j q hij hq=>?_,fun i j q hij hq=>.inl (h3 i j q hij hq),fun i q hq=>hq.imp (h4 i q) id,fun i q hq=>yI (h5 i q hq) hk.size⟩,fun q hq=>?_⟩
 ·rcases xR q w.heap.size with hl | hl
  ·exact (h2 i j q hij hl).imp .inl .inl
  ·exact .inl (.inr ⟨hl,hq⟩)
 ·exact J148 _
theorem Room.less (h:Room P L w) (hL:∀ q,L' q -> L q):Room P L' w:=by
 obtain ⟨D,N,h1,h2,h3,h4,h5⟩:=h.ex;exact ⟨h.mv,⟨D,N,h1,h2,h3,fun i q hq=>h4 i q (hL q hq),h5⟩,fun q hq=>h.low q (hL q hq)⟩
theorem Room.zHX (h:Room P L w) (hk:Keeps zA w w'):Room P L w':=(h.zMA hk).less fun _ h=>.inl h
theorem Room.get (h:Room P L w) (i:Nat):∃ D N,P i D N w:=by
 obtain ⟨D,N,h1,_⟩:=h.ex;exact ⟨_,_,h1 i⟩
theorem Room.go (h:Room P L w) (i:Nat) (hne:∀ j,j ≠ i -> P' j=P j) (mv:Moves (P' i)) {Pr:Program} {f:FuncId} {vs:Array Value} {v:Ending} (hc:∀ D N,P i D N w -> Calls Pr f vs w fun e w'=>e=v /\ P' i D N w' /\ Keeps (fun q=>¬ N q) w w'):Calls Pr f vs w fun e w'=>e=v /\ Room P' L w' /\ Keeps (fun q=>¬ L q) w w':=by
 obtain ⟨D,N,h1,h2,h3,h4,h5⟩:=h.ex;refine (hc _ _ (h1 i)).mono ?_
 rintro e w' ⟨rfl,hx,hk⟩
 have hs:=hk.size;refine ⟨rfl,⟨fun j=>?_,⟨D,fun j=>if j=i then N j else fun q=>N j q \/ (w.heap.size <= q /\ q < w'.heap.size),fun j=>?_,fun j k q hjk hq=>?_,fun j k q hjk hq=>?_,fun j q hq=>?_,fun j q hq=>yI (h5 j q hq) hs⟩,fun q hq=>yI (h.low q hq) hs⟩,hk.mono fun q _ hq hl=>hq (h4 i q hl)⟩
 ·try dsimp only
  try dsimp only at hq
  by_cases e:j=i
  ·subst e;exact mv
  ·rw [hne j e];exact h.mv j
 ·try dsimp only
  try dsimp only at hq
  by_cases e:j=i
  ·subst e;simp only [if_pos];exact hx
  ·rw [if_neg e,hne j e]
   refine h.mv j _ _ (fun q=>¬ N i q /\ q < w.heap.size) _ _ (h1 j) (hk.mono fun q hl hq=>⟨hq,hl⟩) fun q hq=>⟨(h2 j i q e hq.2).elim (fun h=>h) fun g=>absurd g hq.1,fun hd=>hq.1 (h3 j i q e hd)⟩
 ·try dsimp only
  rcases xR q w.heap.size with hl | hl
  ·rcases h2 j k q hjk hl with g | g
   ·refine .inl ?_
    by_cases e:j=i
    ·rw [if_pos e];exact g
    ·rw [if_neg e];exact .inl g
   ·refine .inr ?_
    by_cases e:k=i
    ·rw [if_pos e];exact g
    ·rw [if_neg e];exact .inl g
  ·by_cases e:j=i
   ·refine .inr ?_
    rw [if_neg (fun e2=>hjk (e.trans e2.symm))];exact .inr ⟨hl,hq⟩
   ·refine .inl ?_
    rw [if_neg e];exact .inr ⟨hl,hq⟩
 ·try dsimp only
  have g:=h3 j k q hjk hq;by_cases e:k=i
  ·rw [if_pos e];exact g
  ·rw [if_neg e];exact .inl g
 ·try dsimp only
  have g:=h4 j q hq;by_cases e:j=i
  ·rw [if_pos e];exact g
  ·rw [if_neg e];exact .inl g
end
def zC7 (a b c d:PMa):Nat -> PMa
 | 0=>a
 | 1=>b
 | 2=>c
 | 3=>d
 | _=>fun _ _ _=>True
def zCy:PMa:=fun _ _ _=>True
theorem zHE:Moves zCy:=fun _ _ _ _ _ _ _ _=>trivial
theorem zO9 {a a' b c d:PMa} (j:Nat) (h:j ≠ 0):zC7 a' b c d j=zC7 a b c d j:=by
 match j with
 | 0=>exact absurd rfl h
 | 1=>rfl
 | 2=>rfl
 | 3=>rfl
 | _+4=>rfl
theorem zO1 {a b b' c d:PMa} (j:Nat) (h:j ≠ 1):zC7 a b' c d j=zC7 a b c d j:=by
 match j with
 | 0=>rfl
 | 1=>exact absurd rfl h
 | 2=>rfl
 | 3=>rfl
 | _+4=>rfl
abbrev zB7:=zAm zi 1 103 zBX
abbrev rM (b:Nat) (u:Un) (m:zm):PMa:=fun D N w=>zBa D N w b u m
abbrev cM (b:Nat) (u:Un) (m:zm):PMa:=fun D N w=>zB7 D N w b u m
section
variable {R:zBA WFr} {sz:Nat} {ty:TypeId} {B:zCf} {D N:Nat -> Prop} {w:World} {b:Nat} {u:Un} {m:zm}
theorem zAm.moves:Moves (fun D N w=>zAm R sz ty B D N w b u m):=fun _ _ _ _ _ h hk hS=>h.zGF hk hS
theorem zB7.zOS (h:zB7 D N w b u m) (i:Int):Calls Tryz.prog 15 #[.pointer (some ⟨b,0,none⟩), .int .i64 i] w fun e w'=>e=.returned (.tuple #[evV (stepM u m i).2.1, .int .i64 (stepM u m i).2.2]) /\ zB7 D N w' b u (stepM u m i).1 /\ Keeps (fun q=>¬ N q) w w' :=
 h.stepped fun _ _ _ _ h1=>zIf h1 h.right h.ok i
theorem zB7.zNZ (h:zB7 D N w b u m):Calls Tryz.prog 27 #[.pointer (some ⟨b,0,none⟩)] w (zHK w m):=by
 obtain ⟨T,F,p,H,h1,h2⟩:=h.ex;exact zGz h1 h.right h.ok
theorem zB7.zNz (h:zB7 D N w b u m):Calls Tryz.prog 36 #[.pointer (some ⟨b,0,none⟩)] w (zBW w (zBu m)):=by
 obtain ⟨T,F,p,H,h1,h2⟩:=h.ex;exact zFY h1 h.right h.ok
theorem zB7.zOb (h:zB7 D N w b u m):Calls Tryz.prog 28 #[.pointer (some ⟨b,0,none⟩)] w fun e w'=>e=.returned (.bool (decide ((zBu m).length=0))) /\ Keeps zA w w':=by
 obtain ⟨T,F,p,H,h1,h2⟩:=h.ex;exact zHl h1 h.right h.ok
theorem zBa.zOG (h:zBa D N w b u m):Calls Tryz.prog 40 #[.pointer (some ⟨b,0,none⟩)] w fun e w'=>e=.returned (.bool (decide ((zBu m).length=0))) /\ Keeps zA w w':=by
 obtain ⟨T,F,p,H,h1,h2⟩:=h.ex;exact zKu h1 h.right h.ok
theorem zGn {D' N':Nat -> Prop} {b':Nat} (h:zB7 D N w b u m) (h':zBa D' N' w b' u m):Calls Tryz.prog 11 #[.pointer (some ⟨b,0,none⟩), .pointer (some ⟨b',0,none⟩)] w fun e w'=>e=.returned (.bool true) /\ Keeps zA w w':=by
 have hr:=zAq h.right;have h1:=h.ok.cells;have h2:=h.ok.owners;have h3:=h.ok.zM;exact zKS w b b' m (by omega) (by omega) (by omega) (fun W hk=>zB7.zNz (h.zD hk)) (fun W hk=>zBa.zMK (h'.zD hk)) (fun W hk=>zB7.zNZ (h.zD hk)) (fun W hk=>zBa.zNM (h'.zD hk)) (fun W hk=>zB7.zOb (h.zD hk)) (fun W hk=>zBa.zOG (h'.zD hk))
end
section
variable {L:Nat -> Prop} {w:World} {b:Nat} {u:Un} {m:zm} {a0 a1 a2 a3:PMa}
theorem Room.zOf (h:Room (zC7 (rM b u m) a1 a2 a3) L w) (i:Int):Calls Tryz.prog 14 #[.pointer (some ⟨b,0,none⟩), .int .i64 i] w fun e w'=>e=.returned (.tuple #[evV (stepM u m i).2.1, .int .i64 (stepM u m i).2.2]) /\ Room (zC7 (rM b u (stepM u m i).1) a1 a2 a3) L w' /\ Keeps (fun q=>¬ L q) w w' :=
 h.go 0 (P':=zC7 (rM b u (stepM u m i).1) a1 a2 a3) zO9 zAm.moves fun D N g=>zBa.zN5 (show zBa D N w b u m from g) i
theorem Room.zOI (h:Room (zC7 a0 (cM b u m) a2 a3) L w) (i:Int):Calls Tryz.prog 15 #[.pointer (some ⟨b,0,none⟩), .int .i64 i] w fun e w'=>e=.returned (.tuple #[evV (stepM u m i).2.1, .int .i64 (stepM u m i).2.2]) /\ Room (zC7 a0 (cM b u (stepM u m i).1) a2 a3) L w' /\ Keeps (fun q=>¬ L q) w w' :=
 h.go 1 (P':=zC7 a0 (cM b u (stepM u m i).1) a2 a3) zO1 zAm.moves fun D N g=>zB7.zOS (show zB7 D N w b u m from g) i
end
theorem zGe {w:World} {B n:Nat} {v:Value} {cs:List Value} (h:zAt w B v n cs):∃ ad cap,v=.slice ad n cap:=by obtain ⟨ad,cap,e,_⟩:=h;exact ⟨ad,cap,e⟩
def NB (g:Nat) (l:List Nat) (q:Nat):Prop:=q < g \/ q ∈ l
theorem zCn.more {g y b:Nat} {l:List Nat} {w w':World} {u:Un} {m:zm} (h:zCn (NB g l) w b u m) (hk:Keeps zA w w') (h1:w.heap.size <= y) (h2:y < w'.heap.size):zCn (NB g (y :: l)) w' b u m :=
 (h.fresh hk).mono (fun q hq=>by
   rcases hq with hq | hq
   ·exact .inl (.inl hq)
   ·rcases xX.1 hq with e | e
    ·exact .inr ⟨e ▸ h1,e ▸ h2⟩
    ·exact .inl (.inr e))
theorem zCn.zHV {N:Nat -> Prop} {w:World} {b:Nat} {u:Un} {m m':zm} {i r:Int} {x:Evt} (h:zCn N w b u m) (e:stepM u m i=(m',x,r)):Calls Tryz.prog 15 #[.pointer (some ⟨b,0,none⟩), .int .i64 i] w fun e w'=>e=.returned (.tuple #[.agg #[.int .i64 x.thread, .int .i64 x.kind, .int .i64 x.obj, .int .i64 x.value, .int .i64 x.bad], .int .i64 r]) /\ zCn N w' b u m' /\ Keeps (fun q=>¬ N q) w w':=by
 have g:=h.step i;rw [e] at g;exact g
theorem zGZ (w:World):Calls Tryz.prog 6 #[] w fun e w'=>e=.returned (.bool true) /\ Keeps zA w w':=by
 go_enter Tryz.func6,Tryz.ntmps6
 go_upto_region 3 with fail
 obtain ⟨xr,hxr⟩:=eX w.heap.size;obtain ⟨sm,hsm⟩:=eX (w.heap.size+1);obtain ⟨c0,hc0⟩:=eX (w.heap.size+1+1);obtain ⟨a1,ha1⟩:=eX (w.heap.size+1+1+1);obtain ⟨th,hth⟩:=eX (w.heap.size+1+1+1+1);obtain ⟨bu,hbu⟩:=eX (w.heap.size+1+1+1+1+1);rw [<- hbu,<- hth,<- ha1,<- hc0,<- hsm,<- hxr];obtain ⟨wq0,hw0⟩:∃ z,z=w.alloc (.cells #[.int .i64 2, .int .i64 0, .string { data:=#[] }, .slice none 0 0, .int .i64 1, .int .i64 1, .string { data:=#[] }, .slice none 0 0] 65):=⟨_,rfl⟩
 obtain ⟨wq1,hw1⟩:∃ z,z=wq0.alloc (.cells #[.int .i64 5, .int .i64 0, .string { data:=#[] }, .slice (some ⟨xr,0,none⟩) 2 2] 65):=⟨_,rfl⟩
 obtain ⟨wq2,hw2⟩:=eX (wq1.alloc (.cells #[.int .i64 3] 3));obtain ⟨wq3,hw3⟩:∃ z,z=wq2.alloc (.cells #[.int .i64 2, .int .i64 0, .int .i64 0, .int .i64 0, .int .i64 0, .string { data:=#[] }, .slice none 0 0, .int .i64 0, .slice none 0 0, .slice none 0 0, .int .i64 3, .int .i64 0, .int .i64 0, .int .i64 5, .int .i64 0, .string { data:=#[] }, .slice (some ⟨xr,0,none⟩) 2 2, .int .i64 0, .slice none 0 0, .slice none 0 0] 68):=⟨_,rfl⟩
 obtain ⟨wq4,hw4⟩:=eX (wq3.alloc (.cells #[.int .i64 1, .slice (some ⟨a1,0,none⟩) 2 2] 70));obtain ⟨G,hw5⟩:=eX (wq4.alloc (.cells #[.slice (some ⟨c0,0,none⟩) 1 1, .int .i64 0, .slice (some ⟨th,0,none⟩) 1 1] 25));rw [<- hw0,<- hw1,<- hw2,<- hw3,<- hw4,<- hw5];have kq0:Keeps zA w wq0:=by rw [hw0];exact (yC _ _).alloc _
 have kq1:Keeps zA wq0 wq1:=J213 _;have kq2:Keeps zA wq1 wq2:=by rw [hw2];exact (yC _ _).alloc _
 have kq3:Keeps zA wq2 wq3:=by rw [hw3];exact (yC _ _).alloc _
 have kq4:Keeps zA wq3 wq4:=by rw [hw4];exact (yC _ _).alloc _
 have kq5:Keeps zA wq4 G:=by rw [hw5];exact (yC _ _).alloc _
 have sq0:wq0.heap.size=w.heap.size+1:=by rw [hw0];simp
 have sq1:wq1.heap.size=w.heap.size+1+1:=by rw [hw1];simp [sq0]
 have sq2:wq2.heap.size=w.heap.size+1+1+1:=by rw [hw2];simp [sq1]
 have sq3:wq3.heap.size=w.heap.size+1+1+1+1:=by rw [hw3];simp [sq2]
 have sq4:wq4.heap.size=w.heap.size+1+1+1+1+1:=by rw [hw4];simp [sq3]
 have sq5:G.heap.size=w.heap.size+1+1+1+1+1+1:=by rw [hw5];simp [sq4]
 have rq0:zC wq0 xr [.int .i64 2, .int .i64 0, .string { data:=#[] }, .slice none 0 0, .int .i64 1, .int .i64 1, .string { data:=#[] }, .slice none 0 0]:=by rw [hxr,hw0];exact yN (yK w _)
 have rq1:zC wq1 sm [.int .i64 5, .int .i64 0, .string { data:=#[] }, .slice (some ⟨xr,0,none⟩) 2 2]:=by rw [hsm,<- sq0,hw1];exact yN (yK wq0 _)
 have rq2:zC wq2 c0 [.int .i64 3]:=by rw [hc0,<- sq1,hw2];exact yN (yK wq1 _)
 have rq3:zC wq3 a1 [.int .i64 2, .int .i64 0, .int .i64 0, .int .i64 0, .int .i64 0, .string { data:=#[] }, .slice none 0 0, .int .i64 0, .slice none 0 0, .slice none 0 0, .int .i64 3, .int .i64 0, .int .i64 0, .int .i64 5, .int .i64 0, .string { data:=#[] }, .slice (some ⟨xr,0,none⟩) 2 2, .int .i64 0, .slice none 0 0, .slice none 0 0]:=by rw [ha1,<- sq2,hw3];exact yN (yK wq2 _)
 have rq4:zC wq4 th [.int .i64 1, .slice (some ⟨a1,0,none⟩) 2 2]:=by rw [hth,<- sq3,hw4];exact yN (yK wq3 _)
 have rq5:zC G bu [.slice (some ⟨c0,0,none⟩) 1 1, .int .i64 0, .slice (some ⟨th,0,none⟩) 1 1]:=by rw [hbu,<- sq4,hw5];exact yN (yK wq4 _)
 have Rxr:=yB (rq0.keeps ((((kq1.zB kq2).zB kq3).zB kq4).zB kq5) (fun h=>h));have Rsm:=yB (rq1.keeps (((kq2.zB kq3).zB kq4).zB kq5) (fun h=>h));have Rc0:=yB (rq2.keeps ((kq3.zB kq4).zB kq5) (fun h=>h));have Ra1:=yB (rq3.keeps (kq4.zB kq5) (fun h=>h));have Rth:=yB (rq4.keeps kq5 (fun h=>h));have Rbu:=yB rq5;have KG:Hid (Keeps zA w G):=(((((kq0.zB kq1).zB kq2).zB kq3).zB kq4).zB kq5);have SG:Hid (xr=w.heap.size /\ sm=w.heap.size+1 /\ c0=w.heap.size+1+1 /\ a1=w.heap.size+1+1+1 /\ th=w.heap.size+1+1+1+1 /\ bu=w.heap.size+1+1+1+1+1 /\ G.heap.size=w.heap.size+1+1+1+1+1+1):=⟨hxr,hsm,hc0,ha1,hth,hbu,sq5⟩;clear hw0 kq0 sq0 rq0 hw1 kq1 sq1 rq1 hw2 kq2 sq2 rq2 hw3 kq3 sq3 rq3 hw4 kq4 sq4 rq4 hw5 kq5 sq5 rq5 hxr hsm hc0 ha1 hth hbu
 have HU:Hid (zBp G (fun k=>k < G.heap.size) [3] [⟨1,[shR,shW]⟩] (some ⟨c0,0,none⟩) (some ⟨th,0,none⟩)):=by
  have h:=SG.out;exact zPS (F:=fun k=>k < G.heap.size) Rxr.out Rc0.out Ra1.out Rth.out (by show _ < _;omega) (by show _ < _;omega) (by show _ < _;omega) (by show _ < _;omega) (fun _ h=>h)
 have HNEW:=yB (HU.out.zNq (mu:=0) (ucc:=1) (utc:=1) zPT);obtain ⟨y0,y1,y2⟩:=Rbu.out.three;clear Rxr Rsm Rc0 Ra1 Rth HU;go_upto_region 6 with (go_at_call 9;refine HNEW.out.mono ?_;rintro e w0 ⟨b,rfl,hm,hk⟩;have HM:=yB hm;have K0:=yB hk;clear hm hk)
 clear HNEW y0 y1 y2 Rbu SG;obtain ⟨g0,hg0⟩:=eX G.heap.size
 have M0:Hid (zCn (NB g0 []) w0 b shU sh0):=by
  show zCn _ _ _ _ _
  rw [<- zN1];refine HM.out.mono (fun q hq=>?_)
  rcases hq with h | h
  ·rw [<- hg0];exact h
  ·cases h
 have L0:Hid (Keeps (fun q=>g0 <= q) G w0):=K0.out.mono (fun _ _ h=>h.elim);have HG0:Hid (w.heap.size <= g0):=by show _ <= _;rw [hg0];exact KG.out.size
 clear HM K0 hg0;have NBO:Hid (∀ (l:List Nat) (W W':World),Keeps (fun q=>¬ NB g0 l q) W W' -> Keeps (fun q=>g0 <= q) W W'):=fun l W W' h=>h.mono (fun q _ hq=>Nat.le_of_not_lt (fun h=>hq (.inl h)))
 have ST:=yB (M0.out.zHV zLy);go_upto_region 7 with (go_at_call 15;refine ST.out.mono ?_;rintro e v0 ⟨rfl,hm,hk⟩;have HM:=yB hm;have HK:=yB hk;clear hm hk)
 obtain ⟨y0,w1,e1,e2,r,q,s⟩:=newRow v0 [.int .i64 0, .int .i64 1, .int .i64 0, .int .i64 3, .int .i64 0] 40;try rw [e1]
 try rw [e2]
 have M1:Hid (zCn (NB g0 (y0 :: [])) w1 b shU sh1):=HM.out.more q (by omega) (by have:=s.out;omega);have L1:Hid (Keeps (fun q=>g0 <= q) G w1):=(L0.out.trans (NBO.out _ _ _ HK.out) (fun _ _ h=>h)).trans q (fun _ _ h=>h.elim);have R0:=yB r;clear ST HM HK r q s e1 e2 M0 L0;have ST:=yB (M1.out.zHV zMH);go_upto_region 8 with (go_at_call 15;refine ST.out.mono ?_;rintro e v1 ⟨rfl,hm,hk⟩;have HM:=yB hm;have HK:=yB hk;clear hm hk)
 obtain ⟨y1,w2,e1,e2,r,q,s⟩:=newRow v1 [.int .i64 0, .int .i64 2, .int .i64 0, .int .i64 4, .int .i64 0] 40;try rw [e1]
 try rw [e2]
 have M2:Hid (zCn (NB g0 (y1 :: (y0 :: []))) w2 b shU sh2):=HM.out.more q (by omega) (by have:=s.out;omega);have L2:Hid (Keeps (fun q=>g0 <= q) G w2):=(L1.out.trans (NBO.out _ _ _ HK.out) (fun _ _ h=>h)).trans q (fun _ _ h=>h.elim);have R0:=yB ((R0.out.keeps HK.out (fun h=>h (.inr (by simp)))).keeps q (fun h=>h));have R1:=yB r;clear ST HM HK r q s e1 e2 M1 L1;have ST:=yB (M2.out.zHV zL5);go_upto_region 9 with (go_at_call 15;refine ST.out.mono ?_;rintro e v2 ⟨rfl,hm,hk⟩;have HM:=yB hm;have HK:=yB hk;clear hm hk)
 obtain ⟨y2,w3,e1,e2,r,q,s⟩:=newRow v2 [.int .i64 0, .int .i64 9, .int .i64 0, .int .i64 0, .int .i64 0] 40;try rw [e1]
 try rw [e2]
 have M3:Hid (zCn (NB g0 (y2 :: (y1 :: (y0 :: [])))) w3 b shU sh3):=HM.out.more q (by omega) (by have:=s.out;omega);have L3:Hid (Keeps (fun q=>g0 <= q) G w3):=(L2.out.trans (NBO.out _ _ _ HK.out) (fun _ _ h=>h)).trans q (fun _ _ h=>h.elim);have R0:=yB ((R0.out.keeps HK.out (fun h=>h (.inr (by simp)))).keeps q (fun h=>h));have R1:=yB ((R1.out.keeps HK.out (fun h=>h (.inr (by simp)))).keeps q (fun h=>h));have R2:=yB r;clear ST HM HK r q s e1 e2 M2 L2;have ST:=yB (M3.out.zHV zLI);go_upto_region 10 with (go_at_call 15;refine ST.out.mono ?_;rintro e v3 ⟨rfl,hm,hk⟩;have HM:=yB hm;have HK:=yB hk;clear hm hk)
 obtain ⟨y3,w4,e1,e2,r,q,s⟩:=newRow v3 [.int .i64 0, .int .i64 0, .int .i64 0, .int .i64 0, .int .i64 0] 40;try rw [e1]
 try rw [e2]
 have M4:Hid (zCn (NB g0 (y3 :: (y2 :: (y1 :: (y0 :: []))))) w4 b shU sh3):=HM.out.more q (by omega) (by have:=s.out;omega);have L4:Hid (Keeps (fun q=>g0 <= q) G w4):=(L3.out.trans (NBO.out _ _ _ HK.out) (fun _ _ h=>h)).trans q (fun _ _ h=>h.elim);have R0:=yB ((R0.out.keeps HK.out (fun h=>h (.inr (by simp)))).keeps q (fun h=>h));have R1:=yB ((R1.out.keeps HK.out (fun h=>h (.inr (by simp)))).keeps q (fun h=>h));have R2:=yB ((R2.out.keeps HK.out (fun h=>h (.inr (by simp)))).keeps q (fun h=>h));have R3:=yB r;clear ST HM HK r q s e1 e2 M3 L3;have SE:=yB M4.out.state;go_upto_region 11 with (go_at_call 27;refine SE.out.mono ?_;rintro e v4 ⟨t1,t2,d3,d4,rfl,hs⟩;have S4:=yB hs;obtain ⟨t3,u3,e3⟩:=zGe hs.sts;obtain ⟨t4,u4,e4⟩:=zGe hs.next;subst e3 e4;clear hs)
 obtain ⟨y4,w5,e1,e2,r,q,s⟩:=newRow v4 [.slice t1 1 1, .slice t2 0 0, .slice t3 1 u3, .slice t4 1 u4] 51
 have hc4:∃ g,t1=some ⟨g,0,none⟩ /\ v4.cell? ⟨g,0,none⟩=some (.int .i64 4):=by
  obtain ⟨ad,cap,e,_,_,h1⟩:=S4.out.cells;cases e;obtain ⟨g,e,h2,h3⟩:=h1 (by decide);exact ⟨g,e,h3.cell (k:=0) rfl⟩
 obtain ⟨g8,rfl,hc8⟩:=hc4;change Code.wp _ _ _ _ (v4.alloc (.cells #[.slice (some ⟨g8,0,none⟩) 1 1, .slice t2 0 0, .slice t3 1 u3, .slice t4 1 u4] 51))
 have e2':v4.alloc (.cells #[.slice (some ⟨g8,0,none⟩) 1 1, .slice t2 0 0, .slice t3 1 u3, .slice t4 1 u4] 51)=w5:=e2;try rw [e1]
 try rw [e2']
 have KS:Hid (Keeps zA w4 w5):=S4.out.keeps.zB q;have C8:Hid (w5.cell? ⟨g8,0,none⟩=some (.int .i64 4)):=q.cell (p:=⟨g8,0,none⟩) (fun h=>h) hc8;have R4:=yB r
 have OV:Hid (Calls Tryz.prog 28 #[.pointer (some ⟨b,0,none⟩)] w5 fun e w'=>e=.returned (.bool true) /\ Keeps zA w5 w'):=by
  have h:=zCn.over (M4.out.zD KS.out);rw [zNG] at h;exact h
 clear SE S4 hc8 r q s e1 e2 e2';go_upto_region 12 with (go_at_call 28;refine OV.out.mono ?_;rintro e w6 ⟨rfl,hk⟩;have KO:=yB hk;clear hk)
 have K6:Keeps zA w4 w6:=KS.out.zB KO.out;have hfin:Keeps zA w w6:=KG.out.trans (L4.out.trans K6 (fun _ _ h=>h.elim)) (fun q hq e=>by have e':g0 <= q:=e;have:=HG0.out;omega);have HF:=yB hfin;obtain ⟨a0,a1,a2,a3,a4⟩:=(R0.out.keeps K6 (fun h=>h)).five w6 (yC _ _);obtain ⟨b0,b1,b2,b3,b4⟩:=(R1.out.keeps K6 (fun h=>h)).five w6 (yC _ _);obtain ⟨c0,c1,c2,c3,c4⟩:=(R2.out.keeps K6 (fun h=>h)).five w6 (yC _ _);have s0:=(R4.out.keeps KO.out (fun h=>h)).cell (k:=0) (v:=.slice (some ⟨g8,0,none⟩) 1 1) rfl;have s1:=KO.out.cell (p:=⟨g8,0,none⟩) (fun h=>h) C8.out;clear hfin K6;go_wp2_with fail
 go_ret
 exact ⟨rfl,HF.out⟩
theorem zLH {w:World} {ra:Option Addr} {n rc:Nat} {xs:List Int} (h:zAD w (.slice ra n rc) n (ints xs)) (hn:n=xs.length) {i:Nat} (hi:i < n):∃ g o,ra=some ⟨g,o,none⟩ /\ w.cell? ⟨g,o+i,none⟩=some (.int .i64 (xs.getD i 0)):=by
 obtain ⟨ad,cap,e,h1⟩:=h;cases e;obtain ⟨g,o,e1,h2⟩:=h1 (by omega);exact ⟨g,o,e1,h2 i _ (zu xs i (by omega))⟩
section
variable {cs:List Int} {mu:Int} {bs:List Bd} {w:World} {F:Nat -> Prop} {uca uta:Option Addr} {ucc utc:Nat}
end
inductive Sh where
 | num
 | str
 | row (k:Nat)
def shp:Nat -> List Sh
 | 0=>[.num]
 | 1=>[.num, .num, .str, .row 1]
 | 2=>[.num, .num, .num, .num, .num, .str, .row 1, .num, .row 2, .row 2]
 | _=>[.num, .row 2]
abbrev Rho:=Nat -> Option (Nat × Nat × Nat)
def zCl (rho:Rho) (k r len:Nat) (ad:Option Addr):Prop:=len ≠ 0 -> ∃ h r' n,ad=some ⟨h,0,none⟩ /\ rho h=some (k,r',n) /\ r' < r /\ len <= n /\ len <= 1000000000
def zEj (rho:Rho) (r:Nat):Sh -> Value -> Prop
 | .num,v=>∃ n,v=.int .i64 n
 | .str,v=>∃ s,v=.string s
 | .row k,v=>∃ ad len cap,v=.slice ad len cap /\ zCl rho k r len ad
def zP (w:World) (rho:Rho):Prop:=∀ g k r n,rho g=some (k,r,n) -> ∀ i j s,i < n -> (shp k)[j]?=some s -> ∃ v,w.cell? ⟨g,i*(shp k).length+j,none⟩=some v /\ w.frozen? ⟨g,i*(shp k).length+j,none⟩=false /\ zEj rho r s v
def zBF (rho:Rho) (q:Nat):Prop:=rho q ≠ none
theorem zCl.mono {rho rho':Rho} {k r r' len:Nat} {ad:Option Addr} (h:zCl rho k r len ad) (hr:r <= r') (hx:∀ q t,rho q=some t -> rho' q=some t):zCl rho' k r' len ad:=fun hn=>by
 obtain ⟨g,r1,n,e,h1,h2,h3⟩:=h hn;exact ⟨g,r1,n,e,hx _ _ h1,by omega,h3⟩
theorem zEj.mono {rho rho':Rho} {r r':Nat} {s:Sh} {v:Value} (h:zEj rho r s v) (hr:r <= r') (hx:∀ q t,rho q=some t -> rho' q=some t):zEj rho' r' s v:=by
 cases s with
 | num=>exact h
 | str=>exact h
 | row k =>
   obtain ⟨ad,len,cap,e,h1⟩:=h;exact ⟨ad,len,cap,e,h1.mono hr hx⟩
theorem zP.keeps {S:Nat -> Prop} {w w':World} {rho:Rho} (h:zP w rho) (hk:Keeps S w w') (hS:∀ q,zBF rho q -> ¬ S q):zP w' rho:=fun g k r n e i j s hi hj=>by
 obtain ⟨v,h1,h2,h3⟩:=h g k r n e i j s hi hj;have hn:¬ S g:=hS g (J217 _);refine ⟨v,hk.cell (p:=⟨g,_,none⟩) hn h1,?_,h3⟩
 rw [World.frozen?_of_block (hk.block g (xP w _ h1) hn)];exact h2
theorem zP.zD {w w':World} {rho:Rho} (h:zP w rho) (hk:Keeps zA w w'):zP w' rho:=h.keeps hk fun _ _ h=>h
theorem zP.set {w:World} {rho:Rho} (h:zP w rho) {g k r n i j:Nat} {s:Sh} {v:Value} (hg:rho g=some (k,r,n)) (hi:i < n) (hj:(shp k)[j]?=some s) (hv:zEj rho r s v):zP (w.setCell ⟨g,i*(shp k).length+j,none⟩ v) rho:=fun g' k' r' n' e i' j' s' hi' hj'=>by
 obtain ⟨u,h1,h2,h3⟩:=h g' k' r' n' e i' j' s' hi' hj';by_cases hp:(⟨g,i*(shp k).length+j,none⟩:Addr)=⟨g',i'*(shp k').length+j',none⟩
 ·simp only [Addr.mk.injEq,and_true] at hp
  obtain ⟨rfl,hp⟩:=hp;rw [hg] at e;cases e;have hj1:=(yP.1 hj).1;have hj2:=(yP.1 hj').1
  have hjj:j=j':=by
   have h5:(i*(shp k).length+j) % (shp k).length=j:=by rw [Nat.mul_comm,Nat.mul_add_mod,kG hj1]
   have h6:(i'*(shp k).length+j') % (shp k).length=j':=by rw [Nat.mul_comm,Nat.mul_add_mod,kG hj2]
   rw [<- h5,<- h6,hp]
  subst hjj;rw [hj] at hj';cases hj';rw [hp];exact ⟨v,World.cell?_setCell_same' _ _ _ (by rw [h1];rfl),by rw [World.frozen?_setCell];exact h2,hv⟩
 ·exact ⟨u,by rw [uX _ _ _ _ hp];exact h1,by rw [World.frozen?_setCell];exact h2,h3⟩
theorem zP.put {w:World} {rho:Rho} (h:zP w rho) {g k r n i:Nat} {s:Sh} {v:Value} (hg:rho g=some (k,r,n)) (hi:i < n) (p:Addr) (j:Nat) (hp:p=⟨g,i*(shp k).length+j,none⟩) (hj:(shp k)[j]?=some s) (hv:zEj rho r s v):zP (w.setCell p v) rho:=by
 rw [hp];exact h.set hg hi hj hv
def zI0 (rho:Rho) (v:Value) (k r n:Nat):Rho:=fun q=>if v.ownBlock=some q then some (k,r,n) else rho q
theorem zL3 {rho:Rho} {v:Value} {k r n:Nat} (h:∀ q,v.ownBlock=some q -> rho q=none):∀ q t,rho q=some t -> zI0 rho v k r n q=some t:=fun q t e=>by
 unfold zI0;rw [if_neg (fun e2=>by rw [h q e2] at e;cases e)];exact e
def zDh (a b:Rho):Rho:=fun q=>(a q).or (b q)
theorem zDP {a b:Rho}:∀ q t,a q=some t -> zDh a b q=some t:=fun q t e=>by unfold zDh;rw [e];rfl
theorem zDn {a b:Rho} (h:∀ q,zBF b q -> a q=none):∀ q t,b q=some t -> zDh a b q=some t:=fun q t e=>by
 unfold zDh;rw [h q (J217 _),e];rfl
theorem zGv {a b:Rho} {q:Nat} (h:zBF (zDh a b) q):zBF a q \/ zBF b q:=by
 unfold zBF zDh at *;cases e:a q with
 | none=>rw [e] at h;exact .inr h
 | some t=>exact .inl (fun h=>by cases h)
theorem zP.join {w:World} {a b:Rho} (ha:zP w a) (hb:zP w b) (hd:∀ q,zBF b q -> a q=none):zP w (zDh a b):=fun g k r n e i j s hi hj=>by
 cases ea:a g with
 | some t =>
   have e2:=zDP (b:=b) g t ea;rw [e] at e2;cases e2;obtain ⟨v,h1,h2,h3⟩:=ha g k r n ea i j s hi hj;exact ⟨v,h1,h2,h3.mono (yV _) zDP⟩
 | none =>
   unfold zDh at e;rw [ea] at e;obtain ⟨v,h1,h2,h3⟩:=hb g k r n e i j s hi hj;exact ⟨v,h1,h2,h3.mono (yV _) (zDn hd)⟩
theorem zP.empty (w:World):zP w fun _=>none:=fun _ _ _ _ e=>by cases e
theorem zP.tag {w:World} {rho:Rho} (h:zP w rho) {e k r n:Nat} {v:Value} {css:List Value} (ho:w.ownsRow 0 e (shp k).length v n css) (hd:∀ q,v.ownBlock=some q -> rho q=none)
 (hl:css.length=n*(shp k).length) (hc:∀ i j s u,i < n -> (shp k)[j]?=some s -> css[i*(shp k).length+j]?=some u -> zEj rho r s u):zP w (zI0 rho v k r n):=fun g k' r' n' e1 i j s hi hj=>by
 have hx:=zL3 (k:=k) (r:=r) (n:=n) hd;unfold zI0 at e1;split at e1
 ·rename_i hq
  cases e1;have hjl:=(yP.1 hj).1
  have hlt:i*(shp k).length+j < css.length:=by
   rw [hl];have:(i+1)*(shp k).length <= n*(shp k).length:=vC _ hi
   rw [uY] at this;omega
  have hr:zC w g css:=by
   obtain ⟨g',c,hv,hr,_⟩:=ho.form (by omega);rw [hv] at hq;cases hq;exact uC (by rw [<- hv];exact ho)
  exact ⟨_,hr.cell (yQ hlt),hr.free hlt,(hc i j s _ hi hj (yQ hlt)).mono (yV _) hx⟩
 ·obtain ⟨u,h1,h2,h3⟩:=h g k' r' n' e1 i j s hi hj
  exact ⟨u,h1,h2,h3.mono (yV _) hx⟩
theorem zNr {sz:Nat}:∀ (l:List (List Value)) (i j:Nat),(∀ ds,ds ∈ l -> ds.length=sz) -> j < sz -> l.flatten[i*sz+j]?=(l[i]?).bind fun ds=>ds[j]?
 | [],i,j,_,_=>by simp
 | x :: r,0,j,hl,hj=>by
   rw [kU,Nat.zero_mul,yZ,xS (by rw [hl x uR];exact hj)];simp
 | x :: r,i+1,j,hl,hj=>by
   have hx:=hl x uR;have e:(i+1)*sz+j=x.length+(i*sz+j):=by rw [hx,uY];omega
   rw [kU,e,xH (by omega),uI,zNr r i j (fun ds h=>hl ds (uS _ h)) hj];simp
theorem zGy {sz:Nat}:∀ (l:List (List Value)),(∀ ds,ds ∈ l -> ds.length=sz) -> l.flatten.length=l.length*sz
 | [],_=>by simp
 | x :: r,hl=>by rw [kU,xU,hl x uR,zGy r (fun ds h=>hl ds (uS _ h)),xZ,uY];omega
def zGI (rho:Rho) (k r:Nat) (cs:List Value):Prop:=cs.length=(shp k).length /\ ∀ (j:Nat) (s:Sh) (u:Value),(shp k)[j]?=some s -> cs[j]?=some u -> zEj rho r s u
theorem zGI.mono {rho rho':Rho} {k r r':Nat} {cs:List Value} (h:zGI rho k r cs) (hr:r <= r') (hx:∀ q t,rho q=some t -> rho' q=some t):zGI rho' k r' cs:=⟨h.1,fun j s u e1 e2=>(h.2 j s u e1 e2).mono hr hx⟩
def zDo (B k r:Nat) (w:World) (v:Value) (css:List (List Value)):Prop:=∃ rho,zP w rho /\ (∀ q,zBF rho q -> B <= q /\ q < w.heap.size /\ v.ownBlock ≠ some q) /\ ∀ cs,cs ∈ css -> zGI rho k r cs
def zDM (B:Nat) (w':World) (P:Rho -> Prop):Prop:=∃ rho,zP w' rho /\ (∀ q,zBF rho q -> Since B w' q) /\ P rho
abbrev zMf (B:Nat) (w':World) (k r n:Nat) (ad:Option Addr):Prop:=zDM B w' fun rho=>zCl rho k r n ad
def zGE (P:Rho -> Prop):Prop:=∀ rho rho':Rho,(∀ q t,rho q=some t -> rho' q=some t) -> P rho -> P rho'
theorem zDV (k r n:Nat) (ad:Option Addr):zGE fun rho=>zCl rho k r n ad:=fun _ _ hx h=>h.mono (yV _) hx
theorem zGE.and {P Q:Rho -> Prop} (h:zGE P) (g:zGE Q):zGE fun rho=>P rho /\ Q rho:=fun a b hx e=>⟨h a b hx e.1,g a b hx e.2⟩
section
variable {B k r n sz ty:Nat} {w0 w w':World} {v:Value} {css:List (List Value)} {S:Nat -> Prop}
theorem zDo.nil (w:World):zDo B k r w (.slice none 0 0) []:=⟨fun _=>none,zP.empty w,fun q h=>absurd rfl h,fun cs h=>by cases h⟩
theorem zDo.keeps (h:zDo B k r w v css) (hk:Keeps S w w') (hS:∀ q,S q -> q < B):zDo B k r w' v css:=by
 obtain ⟨rho,h1,h2,h3⟩:=h;exact ⟨rho,h1.keeps hk fun q hq hs=>by have:=(h2 q hq).1;have:=hS q hs;omega,fun q hq=>⟨(h2 q hq).1,yI (h2 q hq).2.1 hk.size,(h2 q hq).2.2⟩,h3⟩
theorem zDo.push (h:zDo B k r w0 v css) (hk:Keeps S w0 w) (hS:∀ q,S q -> q < B) (hB:B <= w0.heap.size) (hv:∀ q,v.ownBlock=some q -> q < w0.heap.size) {rho':Rho} (h1:zP w rho') (h2:∀ q,zBF rho' q -> Since w0.heap.size w q) {cs:List Value} (h3:zGI rho' k r cs) {ty sz:Nat} {xs:List Value} {ad:Option Addr} {cap:Nat} (ha:zAB w 0 ty sz v n xs ad cap w'):zDo B k r w' (.slice ad n cap) (css++[cs]):=by
 obtain ⟨rho,g1,g2,g3⟩:=h
 have hd:∀ q,zBF rho' q -> rho q=none:=fun q hq=>by
  cases e:rho q with
  | none=>rfl
  | some t=>have:=(g2 q (J217 _)).2.1;have:=(h2 q hq).1;omega
 have hj:=(g1.keeps hk fun q hq hs=>by have:=(g2 q hq).1;have:=hS q hs;omega).join h1 hd;have hA:Keeps (fun q=>v.ownBlock=some q) w w':=ha.keeps (yC _ _) (fun q e _=>e)
 have hdom:∀ q,zBF (zDh rho rho') q -> B <= q /\ q < w.heap.size /\ v.ownBlock ≠ some q:=fun q hq=>by
  rcases zGv hq with hq | hq
  ·obtain ⟨a,b,c⟩:=g2 q hq
   exact ⟨a,yI b hk.size,c⟩
  ·obtain ⟨a,b⟩:=h2 q hq
   exact ⟨by omega,b,fun e=>by have:=hv q e;omega⟩
 refine ⟨zDh rho rho',hj.keeps hA fun q hq=>(hdom q hq).2.2,fun q hq=>?_,fun ds hds=>?_⟩
 ·obtain ⟨a,b,c⟩:=hdom q hq
  refine ⟨a,yI b hA.size,fun e=>?_⟩
  rcases ha.2.2 q e with e | e
  ·exact c e
  ·omega
 ·rcases kR.1 hds with hds | hds
  ·exact (g3 ds hds).mono (yV _) zDP
  ·rw [List.mem_singleton] at hds
   subst hds;exact h3.mono (yV _) (zDn hd)
theorem zDo.done (h:zDo B k r w v css) {ty:Nat} {ad:Option Addr} {cap:Nat} (hn:n=css.length) (hv:v=.slice ad n cap) (ho:w.ownsRow 0 ty (shp k).length v n css.flatten) (hB:∀ q,v.ownBlock=some q -> B <= q) (hl:n <= 1000000000):zMf B w k (r+1) n ad:=by
 obtain ⟨rho,g1,g2,g3⟩:=h
 have hd:∀ q,v.ownBlock=some q -> rho q=none:=fun q hq=>by
  cases e:rho q with
  | none=>rfl
  | some t=>exact absurd hq (g2 q (J217 _)).2.2
 have hlen:∀ ds,ds ∈ css -> ds.length=(shp k).length:=fun ds h=>(g3 ds h).1
 refine ⟨zI0 rho v k r n,g1.tag ho hd (by rw [zGy css hlen,hn]) (fun i j s u hi hj hu=>?_),fun q hq=>?_,fun h0=>?_⟩
 ·rw [zNr css i j hlen (yP.1 hj).1] at hu
  obtain ⟨ds,e1,e2⟩:=Option.bind_eq_some_iff.1 hu;exact (g3 ds (vD e1)).2 j s u hj e2
 ·by_cases e:v.ownBlock=some q
  ·exact ⟨hB q e,by
    rcases ho.2 with ⟨e1,_⟩ | ⟨g,c,cur,e1,_,hg,_⟩
    ·rw [e1] at e;simp [Value.ownBlock] at e
    ·rw [e1] at e
     simp [Value.ownBlock] at e
     subst e;exact lt_of_block hg⟩
  ·unfold zBF zI0 at hq
   rw [if_neg e] at hq;exact ⟨(g2 q hq).1,(g2 q hq).2.1⟩
 ·obtain ⟨g,c,e,_⟩:=ho.form (by omega)
  rw [hv] at e;simp only [uJ,true_and] at e;refine ⟨g,r,n,e.1,?_,by omega,yV _,hl⟩
  unfold zI0;rw [hv,e.1];exact if_pos rfl
end
theorem zDM.keeps {B:Nat} {P:Rho -> Prop} {w w':World} {S:Nat -> Prop} (h:zDM B w P) (hk:Keeps S w w') (hS:∀ q,S q -> q < B \/ w.heap.size <= q):zDM B w' P:=by
 obtain ⟨rho,h1,h2,h3⟩:=h;exact ⟨rho,h1.keeps hk fun q hq hs=>by have:=h2 q hq;have:=hS q hs;unfold Since at *;omega,fun q hq=>⟨(h2 q hq).1,yI (h2 q hq).2 hk.size⟩,h3⟩
theorem zDM.both {B C:Nat} {P Q:Rho -> Prop} {wm w':World} {S:Nat -> Prop} (h1:zDM B wm P) (hP:zGE P) (hk:Keeps S wm w') (hS:∀ q,S q -> q < B) (h2:zDM C w' Q) (hQ:zGE Q) (hC:wm.heap.size <= C) (hBC:B <= C):zDM B w' fun rho=>P rho /\ Q rho:=by
 obtain ⟨a,a1,a2,a3⟩:=h1;obtain ⟨b,b1,b2,b3⟩:=h2
 have hd:∀ q,zBF b q -> a q=none:=fun q hq=>by
  cases e:a q with
  | none=>rfl
  | some t=>have:=(a2 q (J217 _)).2;have:=(b2 q hq).1;omega
 refine ⟨zDh a b,(a1.keeps hk fun q hq hs=>by have:=(a2 q hq).1;have:=hS q hs;omega).join b1 hd,fun q hq=>?_,hP _ _ zDP a3,hQ _ _ (zDn hd) b3⟩
 rcases zGv hq with hq | hq
 ·exact ⟨(a2 q hq).1,yI (a2 q hq).2 hk.size⟩
 ·exact ⟨by have:=(b2 q hq).1;omega,(b2 q hq).2⟩
end Go.Proofs.YtfokdllgnblamaaGreatDoor
