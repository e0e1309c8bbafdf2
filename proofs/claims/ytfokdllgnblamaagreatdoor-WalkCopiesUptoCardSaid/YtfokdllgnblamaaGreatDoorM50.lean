/- Layer M: texts joined. -/
import Derived.Test.YtfokdllgnblamaaGreatDoorM49
set_option linter.all false
set_option maxHeartbeats 4000000
set_option maxRecDepth 8000
namespace Go.Proofs.YtfokdllgnblamaaGreatDoor
open Go.RowKit
theorem J139 (P:Prop) (h:P:=by
 try dsimp only
 try dsimp only at hq
 by_cases e:j=i
 ·subst e;exact mv
 ·rw [hne j e];exact h.mv j):P:=h
abbrev PMa:=(Nat -> Prop) -> (Nat -> Prop) -> World -> Prop
def Moves (X:PMa):Prop:=∀ D N S w w',X D N w -> Keeps S w w' -> (∀ q,S q -> N q /\ ¬ D q) -> X D (fun q=>N q \/ (w.heap.size <= q /\ q < w'.heap.size)) w'
structure Room (P:Nat -> PMa) (L:Nat -> Prop) (w:World):Prop where
 mv:∀ i,Moves (P i)
 ex:∃ D N:Nat -> Nat -> Prop,(∀ i,P i (D i) (N i) w) /\ (∀ i j q,i ≠ j -> q < w.heap.size -> N i q \/ N j q) /\ (∀ i j q,i ≠ j -> D i q -> N j q) /\ (∀ i q,L q -> N i q) /\ ∀ i q,D i q -> q < w.heap.size
 low:∀ q,L q -> q < w.heap.size
section
variable {P P':Nat -> PMa} {L L' F:Nat -> Prop} {w w':World}
theorem Room.zIh (h:Room P L w) (hk:Keeps zA w w'):Room P (fun q=>L q \/ (w.heap.size <= q /\ q < w'.heap.size)) w':=by
 obtain ⟨D,N,h1,h2,h3,h4,h5⟩:=h.ex;refine ⟨h.mv,⟨D,fun i q=>N i q \/ (w.heap.size <= q /\ q < w'.heap.size),fun i=>h.mv i _ _ _ _ _ (h1 i) hk (fun _ h=>h.elim),fun i j q hij hq=>?_,fun i j q hij hq=>.inl (h3 i j q hij hq),fun i q hq=>hq.imp (h4 i q) id,fun i q hq=>yJ (h5 i q hq) hk.size⟩,fun q hq=>?_⟩
 ·rcases xM q w.heap.size with hl | hl
  ·exact (h2 i j q hij hl).imp .inl .inl
  ·exact .inl (.inr ⟨hl,hq⟩)
 ·exact J151 _
theorem Room.less (h:Room P L w) (hL:∀ q,L' q -> L q):Room P L' w:=by
 obtain ⟨D,N,h1,h2,h3,h4,h5⟩:=h.ex;exact ⟨h.mv,⟨D,N,h1,h2,h3,fun i q hq=>h4 i q (hL q hq),h5⟩,fun q hq=>h.low q (hL q hq)⟩
theorem Room.zEJ (h:Room P L w) (hk:Keeps zA w w'):Room P L w':=(h.zIh hk).less fun _ h=>.inl h
theorem Room.get (h:Room P L w) (i:Nat):∃ D N,P i D N w:=by
 obtain ⟨D,N,h1,_⟩:=h.ex;exact ⟨_,_,h1 i⟩
theorem Room.more (h:Room P L w) (i:Nat) (hF:∀ q,F q -> L q) (hne:∀ j,j ≠ i -> P' j=P j) (mv:Moves (P' i)) (hk:Keeps zA w w') (hn:P' i F (fun q=>q < w.heap.size) w'):Room P' L w':=by
 obtain ⟨D,N,h1,h2,h3,h4,h5⟩:=h.ex;have hs:=hk.size;refine ⟨fun j=>?_,⟨fun j=>if j=i then F else D j,fun j=>if j=i then fun q=>q < w.heap.size else fun q=>N j q \/ (w.heap.size <= q /\ q < w'.heap.size),fun j=>?_,fun j k q hjk hq=>?_,fun j k q hjk hq=>?_,fun j q hq=>?_,fun j q hq=>?_⟩,fun q hq=>yJ (h.low q hq) hs⟩
 ·exact J139 _
 ·try dsimp only
  try dsimp only at hq
  by_cases e:j=i
  ·subst e;simp only [if_pos];exact hn
  ·rw [if_neg e,if_neg e,hne j e];exact h.mv j _ _ _ _ _ (h1 j) hk (fun _ h=>h.elim)
 ·try dsimp only
  try dsimp only at hq
  by_cases e:j=i
  ·subst e
   simp only [if_pos,if_neg (Ne.symm hjk)];rcases xM q w.heap.size with hl | hl
   ·exact .inl hl
   ·exact .inr (.inr ⟨hl,hq⟩)
  ·rw [if_neg e]
   rcases xM q w.heap.size with hl | hl
   ·by_cases e2:k=i
    ·rw [if_pos e2];exact .inr hl
    ·rw [if_neg e2];exact (h2 j k q hjk hl).imp .inl .inl
   ·exact .inl (.inr ⟨hl,hq⟩)
 ·try dsimp only
  try dsimp only at hq
  by_cases e:j=i
  ·subst e
   rw [if_pos rfl] at hq;rw [if_neg (Ne.symm hjk)];exact .inl (h4 k q (hF q hq))
  ·rw [if_neg e] at hq
   by_cases e2:k=i
   ·rw [if_pos e2];exact h5 j q hq
   ·rw [if_neg e2];exact .inl (h3 j k q hjk hq)
 ·try dsimp only
  try dsimp only at hq
  by_cases e:j=i
  ·rw [if_pos e];exact h.low q hq
  ·rw [if_neg e];exact .inl (h4 j q hq)
 ·try dsimp only
  try dsimp only at hq
  by_cases e:j=i
  ·rw [if_pos e] at hq;exact yJ (h.low q (hF q hq)) hs
  ·rw [if_neg e] at hq;exact yJ (h5 j q hq) hs
theorem Room.go (h:Room P L w) (i:Nat) (hne:∀ j,j ≠ i -> P' j=P j) (mv:Moves (P' i)) {Pr:Program} {f:FuncId} {vs:Array Value} {v:Ending} (hc:∀ D N,P i D N w -> Calls Pr f vs w fun e w'=>e=v /\ P' i D N w' /\ Keeps (fun q=>¬ N q) w w'):Calls Pr f vs w fun e w'=>e=v /\ Room P' L w' /\ Keeps (fun q=>¬ L q) w w':=by
 obtain ⟨D,N,h1,h2,h3,h4,h5⟩:=h.ex;refine (hc _ _ (h1 i)).mono ?_
 rintro e w' ⟨rfl,hx,hk⟩
 have hs:=hk.size;refine ⟨rfl,⟨fun j=>?_,⟨D,fun j=>if j=i then N j else fun q=>N j q \/ (w.heap.size <= q /\ q < w'.heap.size),fun j=>?_,fun j k q hjk hq=>?_,fun j k q hjk hq=>?_,fun j q hq=>?_,fun j q hq=>yJ (h5 j q hq) hs⟩,fun q hq=>yJ (h.low q hq) hs⟩,hk.mono fun q _ hq hl=>hq (h4 i q hl)⟩
 ·exact J139 _
 ·try dsimp only
  try dsimp only at hq
  by_cases e:j=i
  ·subst e;simp only [if_pos];exact hx
  ·rw [if_neg e,hne j e]
   refine h.mv j _ _ (fun q=>¬ N i q /\ q < w.heap.size) _ _ (h1 j) (hk.mono fun q hl hq=>⟨hq,hl⟩) fun q hq=>⟨(h2 j i q e hq.2).elim (fun h=>h) fun g=>absurd g hq.1,fun hd=>hq.1 (h3 j i q e hd)⟩
 ·try dsimp only
  rcases xM q w.heap.size with hl | hl
  ·rcases h2 j k q hjk hl with g | g
   ·refine .inl ?_
    by_cases e:j=i
    ·rw [if_pos e];exact g
    ·rw [if_neg e];exact .inl g
   ·refine .inr ?_
    by_cases e:k=i
    ·rw [if_pos e];exact g
    ·rw [if_neg e];exact .inl g
  ·by_cases e:j=i
   ·refine .inr ?_
    rw [if_neg (fun e2=>hjk (e.trans e2.symm))];exact .inr ⟨hl,hq⟩
   ·refine .inl ?_
    rw [if_neg e];exact .inr ⟨hl,hq⟩
 ·try dsimp only
  have g:=h3 j k q hjk hq;by_cases e:k=i
  ·rw [if_pos e];exact g
  ·rw [if_neg e];exact .inl g
 ·try dsimp only
  have g:=h4 j q hq;by_cases e:j=i
  ·rw [if_pos e];exact g
  ·rw [if_neg e];exact .inl g
theorem Room.copy (h:Room P L w) (i t:Nat) (hit:t ≠ i) {P':Nat -> Nat -> PMa} (hne:∀ b j,j ≠ t -> P' b j=P j) (mv:∀ b,Moves (P' b t)) {Pr:Program} {f:FuncId} {vs:Array Value} {E:Nat -> Ending}
 (hc:∀ D N,P i D N w -> Calls Pr f vs w fun e w'=>∃ b F,e=E b /\ Keeps zA w w' /\ (∀ q,F q -> q < w.heap.size /\ (D q \/ ¬ N q)) /\ P i (fun q=>D q \/ F q) (fun q=>N q \/ F q \/ (w.heap.size <= q /\ q < w'.heap.size)) w' /\ P' b t F (fun q=>q < w.heap.size) w'):Calls Pr f vs w fun e w'=>∃ b,e=E b /\ Room (P' b) L w' /\ Keeps zA w w':=by
 obtain ⟨D,N,h1,h2,h3,h4,h5⟩:=h.ex;refine (hc _ _ (h1 i)).mono ?_
 rintro e w' ⟨b,F,rfl,hk,hF,hx,hy⟩
 have hs:=hk.size
 have hFN:∀ k q,k ≠ i -> F q -> N k q:=fun k q hki hq=>by
  obtain ⟨g1,g2⟩:=hF q hq;rcases g2 with g2 | g2
  ·exact h3 i k q (Ne.symm hki) g2
  ·exact (h2 k i q hki g1).elim (fun h=>h) fun g=>absurd g g2
 obtain ⟨D',hD'⟩:=eX (fun j=>if j=t then F else if j=i then fun q=>D j q \/ F q else D j);obtain ⟨N',hN'⟩:=eX (fun j=>if j=t then fun q=>q < w.heap.size else if j=i then fun q=>N j q \/ F q \/ (w.heap.size <= q /\ q < w'.heap.size) else fun q=>N j q \/ (w.heap.size <= q /\ q < w'.heap.size));have a1:∀ q,D' t q ↔ F q:=fun q=>by rw [hD'];simp
 have a2:∀ j q,j ≠ t -> D' j q -> D j q \/ (j=i /\ F q):=fun j q hj hq=>by
  rw [hD'] at hq;simp only [if_neg hj] at hq;by_cases e:j=i
  ·rw [if_pos e] at hq;exact hq.imp (fun h=>h) fun h=>⟨e,h⟩
  ·rw [if_neg e] at hq;exact .inl hq
 have b1:∀ q,N' t q ↔ q < w.heap.size:=fun q=>by rw [hN'];simp
 have b2:∀ j q,j ≠ t -> N j q \/ (w.heap.size <= q /\ q < w'.heap.size) -> N' j q:=fun j q hj hq=>by
  rw [hN'];simp only [if_neg hj];by_cases e:j=i
  ·rw [if_pos e];exact hq.imp (fun h=>h) .inr
  ·rw [if_neg e];exact hq
 have b3:∀ q,F q -> N' i q:=fun q hq=>by
  rw [hN'];simp only [if_neg (Ne.symm hit),if_pos];exact .inr (.inl hq)
 have b4:∀ j q,j ≠ t -> F q -> N' j q:=fun j q hj hq=>by
  by_cases e:j=i
  ·rw [e];exact b3 q hq
  ·exact b2 j q hj (.inl (hFN j q e hq))
 refine ⟨b,rfl,⟨fun j=>?_,⟨D',N',fun j=>?_,fun j k q hjk hq=>?_,fun j k q hjk hq=>?_,fun j q hq=>?_,fun j q hq=>?_⟩,fun q hq=>yJ (h.low q hq) hs⟩,hk⟩
 ·by_cases e:j=t
  ·rw [e];exact mv b
  ·rw [hne b j e];exact h.mv j
 ·rw [hD',hN']
  by_cases e:j=t
  ·simp only [e,if_pos];exact hy
  ·simp only [if_neg e]
   by_cases e2:j=i
   ·subst e2
    rw [if_pos rfl,if_pos rfl,hne b j e];exact hx
   ·rw [if_neg e2,if_neg e2,hne b j e];exact h.mv j _ _ _ _ _ (h1 j) hk (fun _ h=>h.elim)
 ·rcases xM q w.heap.size with hl | hl
  ·by_cases e:j=t
   ·exact .inl (by rw [e];exact (b1 q).2 hl)
   ·by_cases e2:k=t
    ·exact .inr (by rw [e2];exact (b1 q).2 hl)
    ·exact (h2 j k q hjk hl).imp (fun g=>b2 j q e (.inl g)) fun g=>b2 k q e2 (.inl g)
  ·by_cases e:j=t
   ·exact .inr (b2 k q (fun e2=>hjk (e.trans e2.symm)) (.inr ⟨hl,hq⟩))
   ·exact .inl (b2 j q e (.inr ⟨hl,hq⟩))
 ·by_cases e:j=t
  ·rw [e,a1] at hq
   exact b4 k q (fun e2=>hjk (e.trans e2.symm)) hq
  ·have hq':=a2 j q e hq
   by_cases e2:k=t
   ·rw [e2]
    refine (b1 q).2 ?_
    exact hq'.elim (h5 j q) fun g=>(hF q g.2).1
   ·rcases hq' with g | g
    ·exact b2 k q e2 (.inl (h3 j k q hjk g))
    ·exact b4 k q e2 g.2
 ·by_cases e:j=t
  ·rw [e];exact (b1 q).2 (h.low q hq)
  ·exact b2 j q e (.inl (h4 j q hq))
 ·by_cases e:j=t
  ·rw [e,a1] at hq;have:=(hF q hq).1;omega
  ·rcases a2 j q e hq with g | g
   ·have:=h5 j q g;omega
   ·have:=(hF q g.2).1;omega
end
def zA3 (a b c d:PMa):Nat -> PMa
 | 0=>a
 | 1=>b
 | 2=>c
 | 3=>d
 | _=>fun _ _ _=>True
def zDd:PMa:=fun _ _ _=>True
theorem zEw:Moves zDd:=fun _ _ _ _ _ _ _ _=>trivial
theorem zLW {L:Nat -> Prop} {w:World} (hL:∀ q,L q -> q < w.heap.size):Room (zA3 zDd zDd zDd zDd) L w :=
 ⟨fun i=>by match i with
  | 0=>exact zEw
  | 1=>exact zEw
  | 2=>exact zEw
  | 3=>exact zEw
  | _+4=>exact zEw,
  ⟨fun _ _=>False,fun _ _=>True,fun i=>by match i with
   | 0=>trivial
   | 1=>trivial
   | 2=>trivial
   | 3=>trivial
   | _+4=>trivial,fun _ _ _ _ _=>.inl trivial,fun _ _ _ _ h=>h.elim,fun _ _ _=>trivial,fun _ _ h=>h.elim⟩,hL⟩
theorem zNY {a a' b c d:PMa} (j:Nat) (h:j ≠ 0):zA3 a' b c d j=zA3 a b c d j:=by
 match j with
 | 0=>exact absurd rfl h
 | 1=>rfl
 | 2=>rfl
 | 3=>rfl
 | _+4=>rfl
theorem zNa {a b b' c d:PMa} (j:Nat) (h:j ≠ 1):zA3 a b' c d j=zA3 a b c d j:=by
 match j with
 | 0=>rfl
 | 1=>exact absurd rfl h
 | 2=>rfl
 | 3=>rfl
 | _+4=>rfl
theorem zNZ {a b c c' d:PMa} (j:Nat) (h:j ≠ 2):zA3 a b c' d j=zA3 a b c d j:=by
 match j with
 | 0=>rfl
 | 1=>rfl
 | 2=>exact absurd rfl h
 | 3=>rfl
 | _+4=>rfl
theorem zNX {a b c d d':PMa} (j:Nat) (h:j ≠ 3):zA3 a b c d' j=zA3 a b c d j:=by
 match j with
 | 0=>rfl
 | 1=>rfl
 | 2=>rfl
 | 3=>exact absurd rfl h
 | _+4=>rfl
abbrev zBQ:=zAZ zW 1 103 zBL
abbrev rM (b:Nat) (u:Un) (m:zi):PMa:=fun D N w=>zAs D N w b u m
abbrev cM (b:Nat) (u:Un) (m:zi):PMa:=fun D N w=>zBQ D N w b u m
section
variable {R:zAz WFr} {sz:Nat} {ty:TypeId} {B:zB1} {D N:Nat -> Prop} {w:World} {b:Nat} {u:Un} {m:zi}
theorem zAZ.moves:Moves (fun D N w=>zAZ R sz ty B D N w b u m):=fun _ _ _ _ _ h hk hS=>h.zI4 hk hS
def zJJ (R:zAz WFr) (sz:Nat) (ty:TypeId) (B:zB1) (D N:Nat -> Prop) (w:World) (b:Nat) (u:Un) (m:zi) (e:Ending) (w':World):Prop:=∃ b' F,e=.returned (.pointer (some ⟨b',0,none⟩)) /\ Keeps zA w w' /\ (∀ q,F q -> q < w.heap.size /\ (D q \/ ¬ N q)) /\ zAZ R sz ty B (fun q=>D q \/ F q) (fun q=>N q \/ F q \/ (w.heap.size <= q /\ q < w'.heap.size)) w' b u m /\ zAZ R sz ty B F (fun q=>q < w.heap.size) w' b' u m
theorem zAZ.copied (h:zAZ R sz ty B D N w b u m) {P:Program} {f:FuncId} {vs:Array Value} (hc:∀ T F p H,MaP R sz ty B w T F 0 b u p m H -> Calls P f vs w (zIC R sz ty B w F u m)):Calls P f vs w (zJJ R sz ty B D N w b u m):=by
 obtain ⟨T,F,p,H,h1,h2,h3⟩:=h.ex;refine (hc T F p H h1).mono ?_
 rintro e w' ⟨b',T',p',H',rfl,g1,g2,g3⟩
 have hlo:=fun q (hq:zAg T 0 q \/ F q)=>h.lt h1 hq
 refine ⟨b',F,rfl,g3,fun q hq=>⟨hlo q (.inr hq),h3 q hq⟩,⟨h.L,h.LB,fun q hq=>?_,h.right,h.ok,h.idle,T,F,p,H,xO h.L h.LB h1 g3,fun q hq e=>?_,fun q hq=>.inl (.inr hq)⟩,h.L,h.LB,fun q hq=>yJ hq g3.size,h.right,h.ok,h.idle,T',F,p',H',g1,fun q hq e=>?_,fun q hq=>.inl hq⟩
 ·rcases hq with hq | hq | hq
  ·exact yJ (h.low q hq) g3.size
  ·exact yJ (hlo q (.inr hq)) g3.size
  ·exact hq.2
 ·rcases e with e | e | e
  ·exact h2 q hq e
  ·obtain ⟨t,et⟩:=hq
   rw [h1.zL.sep.sep q e] at et;cases et
  ·have:=hlo q (.inl hq);omega
 ·have e:q < w.heap.size:=e
  obtain ⟨t,et⟩:=hq;rcases g2.2 q _ et with g | g
  ·cases g
  ·omega
theorem zBQ.zLy (h:zBQ D N w b u m) (i:Int):Calls Tryz.prog 15 #[.pointer (some ⟨b,0,none⟩), .int .i64 i] w fun e w'=>e=.returned (.tuple #[evV (stepM u m i).2.1, .int .i64 (stepM u m i).2.2]) /\ zBQ D N w' b u (stepM u m i).1 /\ Keeps (fun q=>¬ N q) w w' :=
 h.stepped fun _ _ _ _ h1=>zIZ h1 h.right h.ok i
theorem zBQ.zMf (h:zBQ D N w b u m):Calls Tryz.prog 27 #[.pointer (some ⟨b,0,none⟩)] w (zGt w m):=by
 obtain ⟨T,F,p,H,h1,h2⟩:=h.ex;exact zGi h1 h.right h.ok
theorem zBQ.zNf (h:zBQ D N w b u m):Calls Tryz.prog 36 #[.pointer (some ⟨b,0,none⟩)] w (zBK w (zBc m)):=by
 obtain ⟨T,F,p,H,h1,h2⟩:=h.ex;exact zFP h1 h.right h.ok
theorem zBQ.zNi (h:zBQ D N w b u m):Calls Tryz.prog 28 #[.pointer (some ⟨b,0,none⟩)] w fun e w'=>e=.returned (.bool (decide ((zBc m).length=0))) /\ Keeps zA w w':=by
 obtain ⟨T,F,p,H,h1,h2⟩:=h.ex;exact zH6 h1 h.right h.ok
theorem zAs.zOO (h:zAs D N w b u m):Calls Tryz.prog 40 #[.pointer (some ⟨b,0,none⟩)] w fun e w'=>e=.returned (.bool (decide ((zBc m).length=0))) /\ Keeps zA w w':=by
 obtain ⟨T,F,p,H,h1,h2⟩:=h.ex;exact zKn h1 h.right h.ok
theorem zGp {D' N':Nat -> Prop} {b':Nat} (h:zBQ D N w b u m) (h':zAs D' N' w b' u m):Calls Tryz.prog 11 #[.pointer (some ⟨b,0,none⟩), .pointer (some ⟨b',0,none⟩)] w fun e w'=>e=.returned (.bool true) /\ Keeps zA w w':=by
 have hr:=zAN h.right;have h1:=h.ok.cells;have h2:=h.ok.owners;have h3:=h.ok.zL;exact zKl w b b' m (by omega) (by omega) (by omega) (fun W hk=>zBQ.zNf (h.zD hk)) (fun W hk=>zAs.zG0 (h'.zD hk)) (fun W hk=>zBQ.zMf (h.zD hk)) (fun W hk=>zAs.zMr (h'.zD hk)) (fun W hk=>zBQ.zNi (h.zD hk)) (fun W hk=>zAs.zOO (h'.zD hk))
theorem zBQ.zNp (h:zBQ D N w b u m):Calls Tryz.prog 16 #[.pointer (some ⟨b,0,none⟩)] w (zJJ zW 1 103 zBL D N w b u m):=h.copied fun _ _ _ _ h1=>zL1 h1 h.right h.ok h.idle
theorem zAs.zNo (h:zAs D N w b u m):Calls Tryz.prog 17 #[.pointer (some ⟨b,0,none⟩)] w (zJJ zAY 3 138 zAt D N w b u m):=h.copied fun _ _ _ _ h1=>zKA h1 h.right h.ok h.idle
end
section
variable {L:Nat -> Prop} {w:World} {b:Nat} {u:Un} {m:zi} {a0 a1 a2 a3:PMa}
theorem Room.zLf (h:Room (zA3 (rM b u m) a1 a2 a3) L w) (i:Int):Calls Tryz.prog 14 #[.pointer (some ⟨b,0,none⟩), .int .i64 i] w fun e w'=>e=.returned (.tuple #[evV (stepM u m i).2.1, .int .i64 (stepM u m i).2.2]) /\ Room (zA3 (rM b u (stepM u m i).1) a1 a2 a3) L w' /\ Keeps (fun q=>¬ L q) w w' :=
 h.go 0 (P':=zA3 (rM b u (stepM u m i).1) a1 a2 a3) zNY zAZ.moves fun D N g=>zAs.zLs (show zAs D N w b u m from g) i
theorem Room.zL5 (h:Room (zA3 a0 (cM b u m) a2 a3) L w) (i:Int):Calls Tryz.prog 15 #[.pointer (some ⟨b,0,none⟩), .int .i64 i] w fun e w'=>e=.returned (.tuple #[evV (stepM u m i).2.1, .int .i64 (stepM u m i).2.2]) /\ Room (zA3 a0 (cM b u (stepM u m i).1) a2 a3) L w' /\ Keeps (fun q=>¬ L q) w w' :=
 h.go 1 (P':=zA3 a0 (cM b u (stepM u m i).1) a2 a3) zNa zAZ.moves fun D N g=>zBQ.zLy (show zBQ D N w b u m from g) i
theorem Room.zON (h:Room (zA3 a0 a1 (rM b u m) a3) L w) (i:Int):Calls Tryz.prog 14 #[.pointer (some ⟨b,0,none⟩), .int .i64 i] w fun e w'=>e=.returned (.tuple #[evV (stepM u m i).2.1, .int .i64 (stepM u m i).2.2]) /\ Room (zA3 a0 a1 (rM b u (stepM u m i).1) a3) L w' /\ Keeps (fun q=>¬ L q) w w' :=
 h.go 2 (P':=zA3 a0 a1 (rM b u (stepM u m i).1) a3) zNZ zAZ.moves fun D N g=>zAs.zLs (show zAs D N w b u m from g) i
theorem Room.zOG (h:Room (zA3 a0 a1 a2 (cM b u m)) L w) (i:Int):Calls Tryz.prog 15 #[.pointer (some ⟨b,0,none⟩), .int .i64 i] w fun e w'=>e=.returned (.tuple #[evV (stepM u m i).2.1, .int .i64 (stepM u m i).2.2]) /\ Room (zA3 a0 a1 a2 (cM b u (stepM u m i).1)) L w' /\ Keeps (fun q=>¬ L q) w w' :=
 h.go 3 (P':=zA3 a0 a1 a2 (cM b u (stepM u m i).1)) zNX zAZ.moves fun D N g=>zBQ.zLy (show zBQ D N w b u m from g) i
theorem Room.zOu (h:Room (zA3 a0 (cM b u m) a2 a3) L w):Calls Tryz.prog 16 #[.pointer (some ⟨b,0,none⟩)] w fun e w'=>∃ b',e=.returned (.pointer (some ⟨b',0,none⟩)) /\ Room (zA3 a0 (cM b u m) a2 (cM b' u m)) L w' /\ Keeps zA w w' :=
 h.copy 1 3 (by decide) (P':=fun b'=>zA3 a0 (cM b u m) a2 (cM b' u m)) (fun _=>zNX) (fun _=>zAZ.moves) (E:=fun b'=>.returned (.pointer (some ⟨b',0,none⟩))) fun D N g=>zBQ.zNp (show zBQ D N w b u m from g)
theorem Room.zOe (h:Room (zA3 (rM b u m) a1 a2 a3) L w):Calls Tryz.prog 17 #[.pointer (some ⟨b,0,none⟩)] w fun e w'=>∃ b',e=.returned (.pointer (some ⟨b',0,none⟩)) /\ Room (zA3 (rM b u m) a1 (rM b' u m) a3) L w' /\ Keeps zA w w' :=
 h.copy 0 2 (by decide) (P':=fun b'=>zA3 (rM b u m) a1 (rM b' u m) a3) (fun _=>zNZ) (fun _=>zAZ.moves) (E:=fun b'=>.returned (.pointer (some ⟨b',0,none⟩))) fun D N g=>zAs.zNo (show zAs D N w b u m from g)
end
theorem zGW {w:World} {B n:Nat} {v:Value} {cs:List Value} (h:zAk w B v n cs):∃ ad cap,v=.slice ad n cap:=by obtain ⟨ad,cap,e,_⟩:=h;exact ⟨ad,cap,e⟩
def NB (g:Nat) (l:List Nat) (q:Nat):Prop:=q < g \/ q ∈ l
theorem zCm.more {g y b:Nat} {l:List Nat} {w w':World} {u:Un} {m:zi} (h:zCm (NB g l) w b u m) (hk:Keeps zA w w') (h1:w.heap.size <= y) (h2:y < w'.heap.size):zCm (NB g (y :: l)) w' b u m :=
 (h.fresh hk).mono (fun q hq=>by
   rcases hq with hq | hq
   ·exact .inl (.inl hq)
   ·rcases xU.1 hq with e | e
    ·exact .inr ⟨e ▸ h1,e ▸ h2⟩
    ·exact .inl (.inr e))
theorem zCm.zHT {N:Nat -> Prop} {w:World} {b:Nat} {u:Un} {m m':zi} {i r:Int} {x:Evt} (h:zCm N w b u m) (e:stepM u m i=(m',x,r)):Calls Tryz.prog 15 #[.pointer (some ⟨b,0,none⟩), .int .i64 i] w fun e w'=>e=.returned (.tuple #[.agg #[.int .i64 x.thread, .int .i64 x.kind, .int .i64 x.obj, .int .i64 x.value, .int .i64 x.bad], .int .i64 r]) /\ zCm N w' b u m' /\ Keeps (fun q=>¬ N q) w w':=by
 have g:=h.step i;rw [e] at g;exact g
theorem zGT (w:World):Calls Tryz.prog 6 #[] w fun e w'=>e=.returned (.bool true) /\ Keeps zA w w':=by
 go_enter Tryz.func6,Tryz.ntmps6
 go_upto_region 3 with fail
 obtain ⟨xr,hxr⟩:=eX w.heap.size;obtain ⟨sm,hsm⟩:=eX (w.heap.size+1);obtain ⟨c0,hc0⟩:=eX (w.heap.size+1+1);obtain ⟨a1,ha1⟩:=eX (w.heap.size+1+1+1);obtain ⟨th,hth⟩:=eX (w.heap.size+1+1+1+1);obtain ⟨bu,hbu⟩:=eX (w.heap.size+1+1+1+1+1);rw [<- hbu,<- hth,<- ha1,<- hc0,<- hsm,<- hxr];obtain ⟨wq0,hw0⟩:∃ z,z=w.alloc (.cells #[.int .i64 2, .int .i64 0, .string { data:=#[] }, .slice none 0 0, .int .i64 1, .int .i64 1, .string { data:=#[] }, .slice none 0 0] 65):=⟨_,rfl⟩
 obtain ⟨wq1,hw1⟩:∃ z,z=wq0.alloc (.cells #[.int .i64 5, .int .i64 0, .string { data:=#[] }, .slice (some ⟨xr,0,none⟩) 2 2] 65):=⟨_,rfl⟩
 obtain ⟨wq2,hw2⟩:=eX (wq1.alloc (.cells #[.int .i64 3] 3));obtain ⟨wq3,hw3⟩:∃ z,z=wq2.alloc (.cells #[.int .i64 2, .int .i64 0, .int .i64 0, .int .i64 0, .int .i64 0, .string { data:=#[] }, .slice none 0 0, .int .i64 0, .slice none 0 0, .slice none 0 0, .int .i64 3, .int .i64 0, .int .i64 0, .int .i64 5, .int .i64 0, .string { data:=#[] }, .slice (some ⟨xr,0,none⟩) 2 2, .int .i64 0, .slice none 0 0, .slice none 0 0] 68):=⟨_,rfl⟩
 obtain ⟨wq4,hw4⟩:=eX (wq3.alloc (.cells #[.int .i64 1, .slice (some ⟨a1,0,none⟩) 2 2] 70));obtain ⟨G,hw5⟩:=eX (wq4.alloc (.cells #[.slice (some ⟨c0,0,none⟩) 1 1, .int .i64 0, .slice (some ⟨th,0,none⟩) 1 1] 25));rw [<- hw0,<- hw1,<- hw2,<- hw3,<- hw4,<- hw5];have kq0:Keeps zA w wq0:=by rw [hw0];exact (yD _ _).alloc _
 have kq1:Keeps zA wq0 wq1:=J217 _;have kq2:Keeps zA wq1 wq2:=by rw [hw2];exact (yD _ _).alloc _
 have kq3:Keeps zA wq2 wq3:=by rw [hw3];exact (yD _ _).alloc _
 have kq4:Keeps zA wq3 wq4:=by rw [hw4];exact (yD _ _).alloc _
 have kq5:Keeps zA wq4 G:=by rw [hw5];exact (yD _ _).alloc _
 have sq0:wq0.heap.size=w.heap.size+1:=by rw [hw0];simp
 have sq1:wq1.heap.size=w.heap.size+1+1:=by rw [hw1];simp [sq0]
 have sq2:wq2.heap.size=w.heap.size+1+1+1:=by rw [hw2];simp [sq1]
 have sq3:wq3.heap.size=w.heap.size+1+1+1+1:=by rw [hw3];simp [sq2]
 have sq4:wq4.heap.size=w.heap.size+1+1+1+1+1:=by rw [hw4];simp [sq3]
 have sq5:G.heap.size=w.heap.size+1+1+1+1+1+1:=by rw [hw5];simp [sq4]
 have rq0:zC wq0 xr [.int .i64 2, .int .i64 0, .string { data:=#[] }, .slice none 0 0, .int .i64 1, .int .i64 1, .string { data:=#[] }, .slice none 0 0]:=by rw [hxr,hw0];exact yN (yL w _)
 have rq1:zC wq1 sm [.int .i64 5, .int .i64 0, .string { data:=#[] }, .slice (some ⟨xr,0,none⟩) 2 2]:=by rw [hsm,<- sq0,hw1];exact yN (yL wq0 _)
 have rq2:zC wq2 c0 [.int .i64 3]:=by rw [hc0,<- sq1,hw2];exact yN (yL wq1 _)
 have rq3:zC wq3 a1 [.int .i64 2, .int .i64 0, .int .i64 0, .int .i64 0, .int .i64 0, .string { data:=#[] }, .slice none 0 0, .int .i64 0, .slice none 0 0, .slice none 0 0, .int .i64 3, .int .i64 0, .int .i64 0, .int .i64 5, .int .i64 0, .string { data:=#[] }, .slice (some ⟨xr,0,none⟩) 2 2, .int .i64 0, .slice none 0 0, .slice none 0 0]:=by rw [ha1,<- sq2,hw3];exact yN (yL wq2 _)
 have rq4:zC wq4 th [.int .i64 1, .slice (some ⟨a1,0,none⟩) 2 2]:=by rw [hth,<- sq3,hw4];exact yN (yL wq3 _)
 have rq5:zC G bu [.slice (some ⟨c0,0,none⟩) 1 1, .int .i64 0, .slice (some ⟨th,0,none⟩) 1 1]:=by rw [hbu,<- sq4,hw5];exact yN (yL wq4 _)
 have Rxr:=yC (rq0.keeps ((((kq1.zB kq2).zB kq3).zB kq4).zB kq5) (fun h=>h));have Rsm:=yC (rq1.keeps (((kq2.zB kq3).zB kq4).zB kq5) (fun h=>h));have Rc0:=yC (rq2.keeps ((kq3.zB kq4).zB kq5) (fun h=>h));have Ra1:=yC (rq3.keeps (kq4.zB kq5) (fun h=>h));have Rth:=yC (rq4.keeps kq5 (fun h=>h));have Rbu:=yC rq5;have KG:Hid (Keeps zA w G):=(((((kq0.zB kq1).zB kq2).zB kq3).zB kq4).zB kq5);have SG:Hid (xr=w.heap.size /\ sm=w.heap.size+1 /\ c0=w.heap.size+1+1 /\ a1=w.heap.size+1+1+1 /\ th=w.heap.size+1+1+1+1 /\ bu=w.heap.size+1+1+1+1+1 /\ G.heap.size=w.heap.size+1+1+1+1+1+1):=⟨hxr,hsm,hc0,ha1,hth,hbu,sq5⟩;clear hw0 kq0 sq0 rq0 hw1 kq1 sq1 rq1 hw2 kq2 sq2 rq2 hw3 kq3 sq3 rq3 hw4 kq4 sq4 rq4 hw5 kq5 sq5 rq5 hxr hsm hc0 ha1 hth hbu
 have HU:Hid (zCR G (fun k=>k < G.heap.size) [3] [⟨1,[shR,shW]⟩] (some ⟨c0,0,none⟩) (some ⟨th,0,none⟩)):=by
  have h:=SG.out;exact zO7 (F:=fun k=>k < G.heap.size) Rxr.out Rc0.out Ra1.out Rth.out (by show _ < _;omega) (by show _ < _;omega) (by show _ < _;omega) (by show _ < _;omega) (fun _ h=>h)
 have HNEW:=yC (HU.out.zNb (mu:=0) (ucc:=1) (utc:=1) zPM);obtain ⟨y0,y1,y2⟩:=Rbu.out.three;clear Rxr Rsm Rc0 Ra1 Rth HU;go_upto_region 6 with (go_at_call 9;refine HNEW.out.mono ?_;rintro e w0 ⟨b,rfl,hm,hk⟩;have HM:=yC hm;have K0:=yC hk;clear hm hk)
 clear HNEW y0 y1 y2 Rbu SG;obtain ⟨g0,hg0⟩:=eX G.heap.size
 have M0:Hid (zCm (NB g0 []) w0 b shU sh0):=by
  show zCm _ _ _ _ _
  rw [<- zNy];refine HM.out.mono (fun q hq=>?_)
  rcases hq with h | h
  ·rw [<- hg0];exact h
  ·cases h
 have L0:Hid (Keeps (fun q=>g0 <= q) G w0):=K0.out.mono (fun _ _ h=>h.elim);have HG0:Hid (w.heap.size <= g0):=by show _ <= _;rw [hg0];exact KG.out.size
 clear HM K0 hg0;have NBO:Hid (∀ (l:List Nat) (W W':World),Keeps (fun q=>¬ NB g0 l q) W W' -> Keeps (fun q=>g0 <= q) W W'):=fun l W W' h=>h.mono (fun q _ hq=>Nat.le_of_not_lt (fun h=>hq (.inl h)))
 have ST:=yC (M0.out.zHT zK2);go_upto_region 7 with (go_at_call 15;refine ST.out.mono ?_;rintro e v0 ⟨rfl,hm,hk⟩;have HM:=yC hm;have HK:=yC hk;clear hm hk)
 obtain ⟨y0,w1,e1,e2,r,q,s⟩:=newRow v0 [.int .i64 0, .int .i64 1, .int .i64 0, .int .i64 3, .int .i64 0] 40;try rw [e1]
 try rw [e2]
 have M1:Hid (zCm (NB g0 (y0 :: [])) w1 b shU sh1):=HM.out.more q (by omega) (by have:=s.out;omega);have L1:Hid (Keeps (fun q=>g0 <= q) G w1):=(L0.out.trans (NBO.out _ _ _ HK.out) (fun _ _ h=>h)).trans q (fun _ _ h=>h.elim);have R0:=yC r;clear ST HM HK r q s e1 e2 M0 L0;have ST:=yC (M1.out.zHT zLY);go_upto_region 8 with (go_at_call 15;refine ST.out.mono ?_;rintro e v1 ⟨rfl,hm,hk⟩;have HM:=yC hm;have HK:=yC hk;clear hm hk)
 obtain ⟨y1,w2,e1,e2,r,q,s⟩:=newRow v1 [.int .i64 0, .int .i64 2, .int .i64 0, .int .i64 4, .int .i64 0] 40;try rw [e1]
 try rw [e2]
 have M2:Hid (zCm (NB g0 (y1 :: (y0 :: []))) w2 b shU sh2):=HM.out.more q (by omega) (by have:=s.out;omega);have L2:Hid (Keeps (fun q=>g0 <= q) G w2):=(L1.out.trans (NBO.out _ _ _ HK.out) (fun _ _ h=>h)).trans q (fun _ _ h=>h.elim);have R0:=yC ((R0.out.keeps HK.out (fun h=>h (.inr (by simp)))).keeps q (fun h=>h));have R1:=yC r;clear ST HM HK r q s e1 e2 M1 L1;have ST:=yC (M2.out.zHT zL8);go_upto_region 9 with (go_at_call 15;refine ST.out.mono ?_;rintro e v2 ⟨rfl,hm,hk⟩;have HM:=yC hm;have HK:=yC hk;clear hm hk)
 obtain ⟨y2,w3,e1,e2,r,q,s⟩:=newRow v2 [.int .i64 0, .int .i64 9, .int .i64 0, .int .i64 0, .int .i64 0] 40;try rw [e1]
 try rw [e2]
 have M3:Hid (zCm (NB g0 (y2 :: (y1 :: (y0 :: [])))) w3 b shU sh3):=HM.out.more q (by omega) (by have:=s.out;omega);have L3:Hid (Keeps (fun q=>g0 <= q) G w3):=(L2.out.trans (NBO.out _ _ _ HK.out) (fun _ _ h=>h)).trans q (fun _ _ h=>h.elim);have R0:=yC ((R0.out.keeps HK.out (fun h=>h (.inr (by simp)))).keeps q (fun h=>h));have R1:=yC ((R1.out.keeps HK.out (fun h=>h (.inr (by simp)))).keeps q (fun h=>h));have R2:=yC r;clear ST HM HK r q s e1 e2 M2 L2;have ST:=yC (M3.out.zHT zKu);go_upto_region 10 with (go_at_call 15;refine ST.out.mono ?_;rintro e v3 ⟨rfl,hm,hk⟩;have HM:=yC hm;have HK:=yC hk;clear hm hk)
 obtain ⟨y3,w4,e1,e2,r,q,s⟩:=newRow v3 [.int .i64 0, .int .i64 0, .int .i64 0, .int .i64 0, .int .i64 0] 40;try rw [e1]
 try rw [e2]
 have M4:Hid (zCm (NB g0 (y3 :: (y2 :: (y1 :: (y0 :: []))))) w4 b shU sh3):=HM.out.more q (by omega) (by have:=s.out;omega);have L4:Hid (Keeps (fun q=>g0 <= q) G w4):=(L3.out.trans (NBO.out _ _ _ HK.out) (fun _ _ h=>h)).trans q (fun _ _ h=>h.elim);have R0:=yC ((R0.out.keeps HK.out (fun h=>h (.inr (by simp)))).keeps q (fun h=>h));have R1:=yC ((R1.out.keeps HK.out (fun h=>h (.inr (by simp)))).keeps q (fun h=>h));have R2:=yC ((R2.out.keeps HK.out (fun h=>h (.inr (by simp)))).keeps q (fun h=>h));have R3:=yC r;clear ST HM HK r q s e1 e2 M3 L3;have SE:=yC M4.out.state;go_upto_region 11 with (go_at_call 27;refine SE.out.mono ?_;rintro e v4 ⟨t1,t2,d3,d4,rfl,hs⟩;have S4:=yC hs;obtain ⟨t3,u3,e3⟩:=zGW hs.sts;obtain ⟨t4,u4,e4⟩:=zGW hs.next;subst e3 e4;clear hs)
 obtain ⟨y4,w5,e1,e2,r,q,s⟩:=newRow v4 [.slice t1 1 1, .slice t2 0 0, .slice t3 1 u3, .slice t4 1 u4] 51
 have hc4:∃ g,t1=some ⟨g,0,none⟩ /\ v4.cell? ⟨g,0,none⟩=some (.int .i64 4):=by
  obtain ⟨ad,cap,e,_,_,h1⟩:=S4.out.cells;cases e;obtain ⟨g,e,h2,h3⟩:=h1 (by decide);exact ⟨g,e,h3.cell (k:=0) rfl⟩
 obtain ⟨g8,rfl,hc8⟩:=hc4;change Code.wp _ _ _ _ (v4.alloc (.cells #[.slice (some ⟨g8,0,none⟩) 1 1, .slice t2 0 0, .slice t3 1 u3, .slice t4 1 u4] 51))
 have e2':v4.alloc (.cells #[.slice (some ⟨g8,0,none⟩) 1 1, .slice t2 0 0, .slice t3 1 u3, .slice t4 1 u4] 51)=w5:=e2;try rw [e1]
 try rw [e2']
 have KS:Hid (Keeps zA w4 w5):=S4.out.keeps.zB q;have C8:Hid (w5.cell? ⟨g8,0,none⟩=some (.int .i64 4)):=q.cell (p:=⟨g8,0,none⟩) (fun h=>h) hc8;have R4:=yC r
 have OV:Hid (Calls Tryz.prog 28 #[.pointer (some ⟨b,0,none⟩)] w5 fun e w'=>e=.returned (.bool true) /\ Keeps zA w5 w'):=by
  have h:=zCm.over (M4.out.zD KS.out);rw [zMc] at h;exact h
 clear SE S4 hc8 r q s e1 e2 e2';go_upto_region 12 with (go_at_call 28;refine OV.out.mono ?_;rintro e w6 ⟨rfl,hk⟩;have KO:=yC hk;clear hk)
 have K6:Keeps zA w4 w6:=KS.out.zB KO.out;have hfin:Keeps zA w w6:=KG.out.trans (L4.out.trans K6 (fun _ _ h=>h.elim)) (fun q hq e=>by have e':g0 <= q:=e;have:=HG0.out;omega);have HF:=yC hfin;obtain ⟨a0,a1,a2,a3,a4⟩:=(R0.out.keeps K6 (fun h=>h)).five w6 (yD _ _);obtain ⟨b0,b1,b2,b3,b4⟩:=(R1.out.keeps K6 (fun h=>h)).five w6 (yD _ _);obtain ⟨c0,c1,c2,c3,c4⟩:=(R2.out.keeps K6 (fun h=>h)).five w6 (yD _ _);have s0:=(R4.out.keeps KO.out (fun h=>h)).cell (k:=0) (v:=.slice (some ⟨g8,0,none⟩) 1 1) rfl;have s1:=KO.out.cell (p:=⟨g8,0,none⟩) (fun h=>h) C8.out;clear hfin K6;go_wp2_with fail
 go_ret
 exact ⟨rfl,HF.out⟩
end Go.Proofs.YtfokdllgnblamaaGreatDoor
