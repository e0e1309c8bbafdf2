/- Layer N: texts joined. -/
import Derived.Test.YtoapgjjepiopbaaGreatDoorN27
set_option linter.all false
set_option maxHeartbeats 1000000
set_option maxRecDepth 8000
namespace Go.Proofs.YtoapgjjepiopbaaGreatDoor
open Go.RowKit
theorem J15 (P:Prop) (h:P:=by
 have hc0:c=0:=by omega
 subst hc0;clear hrun h1 h2;obtain rfl:i=N:=by omega
 go_wp2_with fail
 go_ret
 first
  | exact ⟨da,dc,by first | rfl | go_num,zAD.ofRow HO.out HN.out (fun kb e=>⟨HB.out kb e,zS HO.out e⟩),HK.out⟩
  | exact ⟨da,⟨dc,by first | rfl | go_num⟩,zAD.ofRow HO.out HN.out (fun kb e=>⟨HB.out kb e,zS HO.out e⟩),HK.out⟩):P:=h
theorem J16 (P:Prop) (h:P:=by
 go_wp2_with (first | (at_builtin;refine zI _ (by rfl) _ _ 51 (by rfl) 0 3 j0 _ 1 8 Tryz.underlying51 hj0 hz0 hz1 hz2 rfl (by decide) (.slice da i dc) i (zBd 1000000000 (x+y) i) (by rfl) (zF HO.out ((Keeps.refl zA wr).alloc _) (fun _ _ h=>h)) (.slice (some ⟨wr.heap.size,0,none⟩) 1 1) 1 _ (by rfl) (zC.src (zC.zG (heap_alloc_new wr _))) rfl (by intro q hq;simp only [List.mem_cons,List.not_mem_nil,or_false] at hq;rcases hq with rfl;rfl) (by unfold maxLen;omega) (by omega) (Nat.zero_le _) ?_;intro da2 dc2 w4 ha;have HA:=Lib.hid ha;clear ha) | (go_at_call 47;refine (HDG.out _ _ _ (by first | exact .inl ⟨rfl,rfl⟩ | exact .inr ⟨rfl,rfl⟩) rfl).mono ?_;rintro e w2 ⟨rfl,rfl⟩))
 go_roundw
 case rel =>
  obtain ⟨g1,g2,g3⟩:=grow HO.out HK.out HB.out (by rw [<- HD.out.1];congr 1 <;> omega) HA.out;exact ⟨i+1,(d1+d2+c) / 1000000000,da2,dc2,by omega,by first | rfl | (congr 1 <;> omega),by first | rfl | (congr 1 <;> omega),by go_num,HD.out.2,by have:=HC2.out;omega,g1,g2,g3⟩
 case measure=>simp [intOf];omega):P:=h
theorem J18 (P:Prop) (h:P:=by
 go_wp2_with (first | (at_builtin;refine zI _ (by rfl) _ _ 51 (by rfl) 0 3 j0 _ 1 8 Tryz.underlying51 hj0 hz0 hz1 hz2 rfl (by decide) (.slice da i dc) i (zBd 1000000000 (x*k) i) (by rfl) (zF HO.out ((Keeps.refl zA wr).alloc _) (fun _ _ h=>h)) (.slice (some ⟨wr.heap.size,0,none⟩) 1 1) 1 _ (by rfl) (zC.src (zC.zG (heap_alloc_new wr _))) rfl (by intro q hq;simp only [List.mem_cons,List.not_mem_nil,or_false] at hq;rcases hq with rfl;rfl) (by unfold maxLen;omega) (by omega) (Nat.zero_le _) ?_;intro da2 dc2 w4 ha;have HA:=Lib.hid ha;clear ha) | (go_at_call 47;refine HDG.out.mono ?_;rintro e w2 ⟨rfl,rfl⟩))
 go_roundw
 case rel =>
  obtain ⟨g1,g2,g3⟩:=grow HO.out HK.out HB.out (by rw [<- HD.out.1];congr 1 <;> omega) HA.out;exact ⟨i+1,(m+c) / 1000000000,da2,dc2,by omega,by first | rfl | (congr 1 <;> omega),by first | rfl | (congr 1 <;> omega),by go_num,HD.out.2,by have:=HC2.out;omega,g1,g2,g3⟩
 case measure=>simp [intOf];omega):P:=h
theorem J84 (P:Prop) (h:P:=by
 obtain ⟨g,e,h1,h2⟩:=h;exact ⟨g,e,zF h1 hk (fun _ _ h=>h),h2⟩):P:=h
theorem J140 (P:Prop) (h:P:=by
 have h1:¬ i < p:=fun h=>hlt (hrun.1 (.inl h))
 have h2:¬ 0 < c:=fun h=>hlt (hrun.1 (.inr h))
 have i1:¬ (i:Int) < p:=by omega
 exact J15 _):P:=h
theorem J211 (P:Prop) (h:P:=by have:=(zZ (by decide) p x).2 e;omega):P:=h
def zDo (w:World) (F:Nat -> Prop) (f:WFr) (pv:Value):Prop :=
 (f.left <= 1 /\ ∃ v,pv=.iface 201 (.agg #[v]) /\ zBm w F f.rest v) ∨
 ∃ v v2,pv=.iface 205 (.agg #[v,v2, .int .i64 f.left]) /\ zBm w F f.rest v /\ zBm w F f.all v2
def zDl:zBA WFr:=fun w F f cs=>∃ pv,cs=[pv] /\ zDo w F f pv
theorem zDo.keeps {S F:Nat -> Prop} {w w':World} {f:WFr} {pv:Value} (h:zDo w F f pv) (hk:Keeps S w w') (hS:∀ k,F k -> ¬ S k):zDo w' F f pv:=by
 rcases h with ⟨h0,v,e,h1⟩ | ⟨v,v2,e,h1,h2⟩
 ·exact .inl ⟨h0,v,e,h1.keeps hk hS⟩
 ·exact .inr ⟨v,v2,e,h1.keeps hk hS,h2.keeps hk hS⟩
theorem zEz:zAN zDl 1:=⟨fun h hk hS=>by obtain ⟨pv,e,h1⟩:=h;exact ⟨pv,e,h1.keeps hk hS⟩,fun h hF=>by
 obtain ⟨pv,e,h1⟩:=h;rcases h1 with ⟨h0,v,e1,h1⟩ | ⟨v,v2,e1,h1,h2⟩
 ·exact ⟨pv,e, .inl ⟨h0,v,e1,h1.mono hF⟩⟩
 ·exact ⟨pv,e, .inr ⟨v,v2,e1,h1.mono hF,h2.mono hF⟩⟩,
 fun h=>by obtain ⟨pv,e,_⟩:=h;rw [e];rfl⟩
theorem zDo.one {w:World} {F:Nat -> Prop} {f:WFr} {pv:Value} (h:zDo w F f pv):pv.oneCell'=true:=by
 rcases h with ⟨_,v,rfl,_⟩ | ⟨v,v2,rfl,_⟩ <;> rfl
structure ThL (w:World) (T:zAA) (F:Nat -> Prop) (id g i:Nat) (H:List HTh) (ths:List WTh) (t:WTh) (fs:List WFr) (f:WFr) (rv:Value) (gp cap:Nat) (css:List (List Value)) (pv:Value):Prop where
 G:zCq zDl 1 148 w T F id g H ths
 th:ths[i]?=some t
 h:H[i]?=some ⟨t.st,rv, .slice (some ⟨gp,0,none⟩) (fs.length+1) cap⟩
 regs:zBS w T id (.regs i) rv t.regs
 tag:T gp=some (id, .fs i)
 len:css.length=fs.length
 room:fs.length+1 <= cap
 flat:css.flatten.length=fs.length*1
 own:w.ownsRow 0 148 1 (.slice (some ⟨gp,0,none⟩) (fs.length+1) cap) (fs.length+1) (css.flatten++[pv])
 pl:zDo w F f pv
 pls:∀ (j:Nat) (y:WFr) (ds:List Value),fs[j]?=some y -> css[j]?=some ds -> zDl w F y ds
namespace ThL
variable {w w':World} {T:zAA} {F:Nat -> Prop} {id g i gp cap:Nat} {H:List HTh} {ths:List WTh} {t:WTh} {fs:List WFr} {f:WFr} {rv pv:Value} {css:List (List Value)}
theorem zD (h:ThL w T F id g i H ths t fs f rv gp cap css pv) (hk:Keeps zA w w'):ThL w' T F id g i H ths t fs f rv gp cap css pv :=
 ⟨zCq.keeps zEz h.G hk (fun _ _ h=>h),h.th,h.h,h.regs.keeps hk (fun _ _ h=>h),h.tag,h.len,h.room,h.flat,zF h.own hk (fun _ _ h=>h),h.pl.keeps hk (fun _ _ h=>h),fun j y ds e1 e2=>zEz.keeps (h.pls j y ds e1 e2) hk (fun _ _ h=>h)⟩
theorem cell (h:ThL w T F id g i H ths t fs f rv gp cap css pv):w.cell? ⟨gp,fs.length,none⟩=some pv:=by
 have hr:=zC.zAM h.own;refine hr.cell ?_
 rw [List.getElem?_append_right (by rw [h.flat];omega),h.flat];simp
theorem free (h:ThL w T F id g i H ths t fs f rv gp cap css pv):w.frozen? ⟨gp,fs.length,none⟩=false :=
 (zC.zAM h.own).free (by rw [List.length_append,h.flat];simp)
theorem fv (h:ThL w T F id g i H ths t fs f rv gp cap css pv):w.cell? ⟨g,i*3+2,none⟩=some (.slice (some ⟨gp,0,none⟩) (fs.length+1) cap):=(zDB h.G.row h.h).2.2
end ThL
theorem zF7 {w:World} {p:Addr} (h:w.frozen? p=false) (hc:∃ v,w.cell? p=some v):∀ W,Keeps zA w W -> W.frozen? p=false:=fun W q=>by
 obtain ⟨v,hv⟩:=hc;have hb:=World.block_lt_of_cell? w p hv;rw [World.frozen?_of_block (q.block p.block hb (fun h=>h))];exact h
theorem zE5.trans {R:zBA WFr} {sz:Nat} {ty:TypeId} {w wr w2:World} {T T':zAA} {F:Nat -> Prop} {id g i:Nat} {ths:List WTh} {t1 t2:WTh} (hx:zCT T T' id w) (hk:Keeps (zHx T id) w wr) (h:zE5 R sz ty wr T' F id g i (ths.set i t1) t2 w2):zE5 R sz ty w T F id g i ths t2 w2:=by
 obtain ⟨T2,H2,h1,h2,h3⟩:=h;rw [List.set_set] at h1;refine ⟨T2,H2,h1,hx.trans h2 hk.size,hk.trans h3 (fun k hlt hs=>?_)⟩
 have back:∀ y,T' k=some (id,y) -> T k=some (id,y):=fun y e=>by
  rcases hx.2 k _ e with h | h
  ·exact h
  ·omega
 rcases hs with hs | ⟨j,hs | hs⟩
 ·exact .inl (back _ hs)
 ·exact .inr ⟨j, .inl (back _ hs)⟩
 ·exact .inr ⟨j, .inr (back _ hs)⟩
theorem zJG.split {u:Un} {n:Int} {fs:List WFr} {f:WFr} (h:zJG u n (fs++[f])):f.ok u n /\ fs.length < 1000000:=by
 refine ⟨h.each f (by simp),?_⟩
 have:=h.low.1
 simp at this
 omega
theorem zM8 {R:zBA WFr} {sz:Nat} {ty:TypeId} (LR:zAN R sz) {w:World} {T:zAA} {F:Nat -> Prop} {id g i gr rc:Nat} {H:List HTh} {ths:List WTh} {t:WTh} {fv:Value} (h:zCq R sz ty w T F id g H ths) (hH:H[i]?=some ⟨t.st, .slice (some ⟨gr,0,none⟩) t.regs.length rc,fv⟩) (hT:T gr=some (id, .regs i))
 (hr:zC w gr (ints t.regs)) (hfs:zCY R sz ty w T F id i fv t.fs) {k:Nat} (hk:k < t.regs.length) (u:Int):zE5 R sz ty w T F id g i ths { t with regs:=t.regs.set k u } (w.setCell ⟨gr,k,none⟩ (.int .i64 u)):=by
 have hkp:Keeps (fun q=>q=gr) w (w.setCell ⟨gr,k,none⟩ (.int .i64 u)):=(Keeps.refl (fun q=>q=gr) w).setCell (p:=⟨gr,k,none⟩) (fun _=>rfl) _;have hF:∀ q,F q -> ¬ q=gr:=fun q hq e=>by have:=h.sep.sep q hq;rw [e,hT] at this;cases this
 have hg:¬ g=gr:=fun e=>by have:=h.tag;rw [e,hT] at this;cases this
 have hI:=zBS.set (id:=id) (t:=.regs i) (cap:=rc) hT hr k hk u
 have hHH:H.set i ⟨t.st, .slice (some ⟨gr,0,none⟩) t.regs.length rc,fv⟩=H:=by
  obtain ⟨q1,q2⟩:=List.getElem?_eq_some_iff.1 hH;rw [<- q2,List.set_getElem_self]
 have hu:=zCq.upd (i:=i) (t':={ t with regs:=t.regs.set k u }) LR h (zCT.refl T id w) (h.sep.keeps hkp) (hkp.mono (fun q _ e=>.inr (.inl (by rw [e];exact hT)))) (a':=⟨t.st, .slice (some ⟨gr,0,none⟩) t.regs.length rc,fv⟩) (by rw [hHH];exact h.row.keeps hkp hg) rfl hI
  (zCY.keeps LR hfs hkp (fun q e1 e2=>by rw [e2,hT] at e1;cases e1) hF)
 exact ⟨T,_,hu,zCT.refl T id w,hkp.mono (fun q _ e=>by rw [e];exact .inr ⟨i, .inl hT⟩)⟩
def zLp (w W:World) (n:Nat) (v:Value):Prop:=∃ g,v=.slice (some ⟨g,0,none⟩) n n /\ W.ownsRow 0 3 1 (.slice (some ⟨g,0,none⟩) n n) n (ints (List.replicate n 0)) /\ w.heap.size <= g
def zKj (w W:World) (pv:Value) (v:Value):Prop:=∃ g,v=.slice (some ⟨g,0,none⟩) 1 1 /\ W.ownsRow 0 148 1 (.slice (some ⟨g,0,none⟩) 1 1) 1 [pv] /\ w.heap.size <= g
theorem zLp.keeps {w W W':World} {n:Nat} {v:Value} (h:zLp w W n v) (hk:Keeps zA W W'):zLp w W' n v:=by
 exact J84 _
theorem zKj.keeps {w W W':World} {pv v:Value} (h:zKj w W pv v) (hk:Keeps zA W W'):zKj w W' pv v:=by
 exact J84 _
end Go.Proofs.YtoapgjjepiopbaaGreatDoor
namespace Go.Proofs.YtoapgjjepiopbaaGreatDoor
open Go.RowKit Go.Maps
section
variable {w:World} {T:zAA} {F:Nat -> Prop} {id b i:Nat} {u:Un} {p:zDP} {m:WMa} {H:List HTh}
theorem MaP.st {R:zBA WFr} {sz:Nat} {ty:TypeId} {B:zDx} (h:MaP R sz ty B w T F id b u p m H) (hi:i < m.ths.length):∀ W,Keeps zA w W -> W.cell? ⟨p.gt,i*3,none⟩=some (.int .i64 (m.get i).st):=by
 obtain ⟨rv,fv,hH,_⟩:=h.ths.get (WMa.get_some hi);exact zL (zDB h.ths.row hH).1
end
section
variable {w:World} {T:zAA} {F:Nat -> Prop} {id b i:Nat} {u:Un} {p:zDP} {m:WMa} {H:List HTh}
end
end Go.Proofs.YtoapgjjepiopbaaGreatDoor
namespace Go.Proofs.YtoapgjjepiopbaaGreatDoor
open Go.RowKit
def Do1 (w:World) (T:zAA) (F:Nat -> Prop) (id b:Nat) (u:Un) (p:zDP) (be i:Nat) (k o:Int) (m:WMa) (v bad:Int) (w':World):Prop :=
 ∃ T' H',MaP zDl 1 148 zHD w' T' F id b u p m H' /\ zCT T T' id w /\ Keeps (fun q=>zFr T id q \/ q=be) w w' /\ zC w' be [.int .i64 i, .int .i64 k, .int .i64 o, .int .i64 v, .int .i64 bad] /\ T' be=none /\ ¬ F be
section
variable {w w' w2:World} {T:zAA} {F:Nat -> Prop} {id b be i:Nat} {u:Un} {p:zDP} {k o v bad:Int} {m m2:WMa} {H:List HTh}
structure zKE (w:World) (T:zAA) (F:Nat -> Prop) (id b:Nat) (u:Un) (p:zDP) (be i:Nat) (m:WMa) (H:List HTh) (a:Ac) (n:Int) (xa:Option Addr):Prop where
 M:MaP zDl 1 148 zHD w T F id b u p m H
 ok:m.ok u
 right:zu u=true
 hi:i < m.ths.length
 ev:zC w be [.int .i64 i, .int .i64 (a.kind - 1), .int .i64 a.obj, .int .i64 0, .int .i64 0]
 f1:T be=none
 f2:¬ F be
 may:Ac.may u n a=true
 reg:(m.get i).regs.length=n.toNat
 xs:zR w F a.ex.args xa
theorem zKE.zD {a:Ac} {n:Int} {xa:Option Addr} (h:zKE w T F id b u p be i m H a n xa) (hk:Keeps zA w w'):zKE w' T F id b u p be i m H a n xa :=
 ⟨MaP.zD zEz zLR h.M hk,h.ok,h.right,h.hi,h.ev.keeps hk (fun h=>h),h.f1,h.f2,h.may,h.reg,zR.keeps h.xs hk (fun _ _ h=>h)⟩
theorem Do1.before (h:Do1 w' T F id b u p be i k o m v bad w2) (hk:Keeps zA w w'):Do1 w T F id b u p be i k o m v bad w2:=by
 obtain ⟨T',H',M,x,q,E,f1,f2⟩:=h;exact ⟨T',H',M,⟨x.1,fun k y e=>(x.2 k y e).imp (fun h=>h) (fun h=>⟨Nat.le_trans hk.size h.1,h.2⟩)⟩,(hk.mono (fun _ _ h=>h.elim)).trans q (fun _ _ h=>h),E,f1,f2⟩
theorem zKE.val {a:Ac} {n:Int} {xa:Option Addr} (h:zKE w T F id b u p be i m H a n xa) (hk:a.kind=3 \/ a.kind=4 \/ a.kind=9) (xc:Nat) {rv fv:Value} (hH:H[i]?=some ⟨(m.get i).st,rv,fv⟩):Ret w 107 #[.agg #[.int .i64 a.ex.kind, .int .i64 a.ex.num, .string a.ex.nm, .slice xa a.ex.args.length xc],rv] (.int .i64 (a.ex.val (m.get i).regs)):=fun W hq=>by
 have hs:=(h.M.ths.each i _ _ hH (WMa.get_some h.hi)).2.1;exact zMF (m.get i).regs n _ h.reg a.ex W F xa xc (zR.keeps h.xs hq (fun _ _ h=>h)) ((hs.keeps hq (fun _ _ h=>h)).src) (Ac.zOK h.may (by omega))
theorem MaP.reg (h:MaP zDl 1 148 zHD w T F id b u p m H) (hi:i < m.ths.length) {k:Nat} (hk:k < (m.get i).regs.length):∃ gr rc,(∀ W,Keeps zA w W -> W.cell? ⟨p.gt,i*3+1,none⟩=some (.slice (some ⟨gr,0,none⟩) (m.get i).regs.length rc)) /\ zC w gr (ints (m.get i).regs) ∧
 ∀ v,zCA zDl 1 148 zHD w T F id b u p (m.zC9 i { m.get i with regs:=(m.get i).regs.set k v }) (w.setCell ⟨gr,k,none⟩ (.int .i64 v)):=by
 obtain ⟨rv,fv,hH,hr,hf⟩:=h.ths.get (WMa.get_some hi);obtain ⟨gr,rc,e,hT,hrow⟩:=hr.at hk;subst e;exact ⟨gr,rc,zL (zDB h.ths.row hH).2.1,hrow,fun v=>h.went zLR (zM8 zEz h.ths hH hT hrow hf hk v)⟩
end
theorem zLB (x y:Nat) (w:World) (F:Nat -> Prop) (xa ya:Option Addr) (xc yc:Nat) (hx:zAD w F 1000000000 x xa) (hy:zAD w F 1000000000 y ya) (lx:(zw 1000000000 x).length <= 100000000000) (ly:(zw 1000000000 y).length <= 100000000000) :
 Calls Tryz.prog 91 #[.slice xa (zw 1000000000 x).length xc, .slice ya (zw 1000000000 y).length yc] w (zAz 1000000000 (x+y) w):=by
 obtain ⟨j0,hj0,hz0,hz1,hz2⟩:=info_parts zA8;have HX:=Lib.hid hx;have HY:=Lib.hid hy;obtain ⟨N,hN⟩:=eX ((zw 1000000000 (x+y)).length);have HN:=Lib.hid hN;obtain ⟨p,hp⟩:=eX ((zw 1000000000 x).length);obtain ⟨q,hq⟩:=eX ((zw 1000000000 y).length);have HPQ:Hid (p=(zw 1000000000 x).length /\ q=(zw 1000000000 y).length):=⟨hp,hq⟩;obtain ⟨L,hL⟩:=eX (max p q);have hmx:max (p:Int) (q:Int)=(L:Int):=by omega
 have hrun:∀ i,(i < L \/ 0 < (x % 1000000000 ^ i+y % 1000000000 ^ i) / 1000000000 ^ i) ↔ i < N:=fun i=>by rw [hL,hp,hq,hN];exact zHU (by decide) x y i
 have HRUN:=Lib.hid hrun
 have hNL:N <= L+1:=by
  rcases Nat.lt_or_ge (L+1) N with h | h
  ·have h1:=(hrun (L+1)).2 h
   have hx2:x < 1000000000 ^ L:=Nat.lt_of_not_le fun e=>by have:=(zZ (by decide) L x).2 e;omega
   have hy2:y < 1000000000 ^ L:=Nat.lt_of_not_le fun e=>by have:=(zZ (by decide) L y).2 e;omega
   have h2:1000000000 ^ (L+1) <= x+y:=(zZ (by decide) (L+1) (x+y)).1 (by omega);rw [Nat.pow_succ] at h2;omega
  ·exact h
 unfold zAz;rw [<- hN];rw [<- hp] at lx ⊢;rw [<- hq] at ly ⊢;have hN9:N <= 100000000001:=by omega
 have hL9:L <= 100000000000:=by omega
 clear hN hx hy hp hq hrun hL hNL;go_enter Tryz.func91,Tryz.ntmps91
 go_wp2_with fail
 go_loopw [5,6,7] (fun ov cv iv wr=>∃ (i c:Nat) (da:Option Addr) (dc:Nat),i <= N /\ iv=.int .i64 i /\ cv=.int .i64 c /\ ov=.slice da i dc /\ Hid (c=(x % 1000000000 ^ i+y % 1000000000 ^ i) / 1000000000 ^ i) /\ c < 2 /\ Hid (wr.ownsRow 0 3 1 (.slice da i dc) i (zBd 1000000000 (x+y) i)) /\ Hid (Keeps zA w wr) /\ Hid (∀ kb,(Value.slice da i dc).ownBlock=some kb -> w.heap.size <= kb)) (fun _ _ iv _=>N - (intOf iv).toNat)
 case atStart=>exact ⟨0,0,none,0,Nat.zero_le _,rfl,rfl,rfl,by show _=_;simp [Nat.mod_one],by decide,World.ownsRow_nil _ _ _ _,Keeps.refl _ _,fun kb e=>by exact J152 _⟩
 case round =>
  obtain ⟨i,c,da,dc,hi,rfl,rfl,rfl,HC,hc2,HO,HK,HB⟩:=hrel;have hrun:=HRUN.out i;rw [<- HC.out] at hrun;by_cases hlt:i < N
  ·have HDG:Hid (∀ W s z,(s=.slice xa p xc /\ z=x / 1000000000 ^ i % 1000000000 \/ s=.slice ya q yc /\ z=y / 1000000000 ^ i % 1000000000) -> W=wr -> Calls Tryz.prog 47 #[s, .int .i64 i] W fun e w'=>e=.returned (.int .i64 (z:Nat)) /\ W=w'):=fun W s z h hW=>by
    subst hW;rcases h with ⟨rfl,rfl⟩ | ⟨rfl,rfl⟩
    ·rw [HPQ.out.1];exact zCQ 1000000000 (by decide) x i _ F xa xc (HX.out.keeps HK.out (fun _ _ h=>h))
    ·rw [HPQ.out.2];exact zCQ 1000000000 (by decide) y i _ F ya yc (HY.out.keeps HK.out (fun _ _ h=>h))
   have hs:=zGK (b:=1000000000) (by decide) x y i;have hcn:=zFH (b:=1000000000) (by decide) x y (i+1);have hd1:=zCS (b:=1000000000) (by decide) x i;have hd2:=zCS (b:=1000000000) (by decide) y i;rw [<- HC.out] at hs;rw [<- hs.2] at hcn;have HD:Hid ((x / 1000000000 ^ i % 1000000000+y / 1000000000 ^ i % 1000000000+c) % 1000000000=(x+y) / 1000000000 ^ i % 1000000000 /\ (x / 1000000000 ^ i % 1000000000+y / 1000000000 ^ i % 1000000000+c) / 1000000000=(x % 1000000000 ^ (i+1)+y % 1000000000 ^ (i+1)) / 1000000000 ^ (i+1)):=hs;have HC2:Hid ((x / 1000000000 ^ i % 1000000000+y / 1000000000 ^ i % 1000000000+c) / 1000000000 < 2):=hcn;clear hs hcn;generalize x / 1000000000 ^ i % 1000000000=d1 at HDG HD hd1 HC2;generalize y / 1000000000 ^ i % 1000000000=d2 at HDG HD hd2 HC2;have hor:=hrun.2 hlt;clear hrun;have i0:(0:Int) <= i:=by omega
   rcases (show (i < L) \/ (¬ i < L /\ 0 < c) by omega) with h | ⟨h,h2⟩
   ·have i1:(i:Int) < L:=by omega
    exact J16 _
   ·have i1:¬ (i:Int) < L:=by omega
    have i2:(0:Int) < c:=by omega
    exact J16 _
  ·have h1:¬ i < L:=fun h=>hlt (hrun.1 (.inl h))
   have h2:¬ 0 < c:=fun h=>hlt (hrun.1 (.inr h))
   have i1:¬ (i:Int) < L:=by omega
   exact J15 _
theorem zJY (x k:Nat) (w:World) (F:Nat -> Prop) (xa:Option Addr) (xc:Nat) (hx:zAD w F 1000000000 x xa) (lx:(zw 1000000000 x).length <= 100000000000) (hk:k <= 1000) :
 Calls Tryz.prog 92 #[.slice xa (zw 1000000000 x).length xc, .int .i64 k] w (zAz 1000000000 (x*k) w):=by
 obtain ⟨j0,hj0,hz0,hz1,hz2⟩:=info_parts zA8;by_cases hk0:k=0
 ·subst hk0
  unfold zAz;rw [Nat.mul_zero,zBc];generalize (zw 1000000000 x).length=p;clear hx lx;go_enter Tryz.func92,Tryz.ntmps92
  go_wp2_with fail
  go_ret
  exact ⟨none,0,rfl,zAD.zero _ _ _ _,Keeps.refl _ _⟩
 have HX:=Lib.hid hx;have k0:0 < k:=by omega
 have k0':¬ (k:Int)=0:=by omega
 have k0b:((k:Int)==0)=false:=by simpa using k0'
 obtain ⟨N,hN⟩:=eX ((zw 1000000000 (x*k)).length);have HN:=Lib.hid hN;obtain ⟨p,hp⟩:=eX ((zw 1000000000 x).length);have HPQ:Hid (p=(zw 1000000000 x).length):=hp;have hrun:∀ i,(i < p \/ 0 < x % 1000000000 ^ i*k / 1000000000 ^ i) ↔ i < N:=fun i=>by rw [hp,hN];exact zGF (by decide) x k i k0
 have HRUN:=Lib.hid hrun
 have hNL:N <= p+1:=by
  rcases Nat.lt_or_ge (p+1) N with h | h
  ·have hx2:x < 1000000000 ^ p:=Nat.lt_of_not_le fun e=>by exact J211 _
   have h2:1000000000 ^ (p+1) <= x*k:=(zZ (by decide) (p+1) (x*k)).1 (by omega);rw [Nat.pow_succ] at h2;have h3:x*k <= x*1000:=Nat.mul_le_mul_left x hk;omega
  ·exact h
 unfold zAz;rw [<- hN];rw [<- hp] at lx ⊢;have hN9:N <= 100000000001:=by omega
 clear hN hx hp hrun hNL hk0;go_enter Tryz.func92,Tryz.ntmps92
 go_wp2_with fail
 go_loopw [5,6,7] (fun ov cv iv wr=>∃ (i c:Nat) (da:Option Addr) (dc:Nat),i <= N /\ iv=.int .i64 i /\ cv=.int .i64 c /\ ov=.slice da i dc /\ Hid (c=x % 1000000000 ^ i*k / 1000000000 ^ i) /\ c < 1000 /\ Hid (wr.ownsRow 0 3 1 (.slice da i dc) i (zBd 1000000000 (x*k) i)) /\ Hid (Keeps zA w wr) /\ Hid (∀ kb,(Value.slice da i dc).ownBlock=some kb -> w.heap.size <= kb)) (fun _ _ iv _=>N - (intOf iv).toNat)
 case atStart=>exact ⟨0,0,none,0,Nat.zero_le _,rfl,rfl,rfl,by show _=_;simp [Nat.mod_one],by decide,World.ownsRow_nil _ _ _ _,Keeps.refl _ _,fun kb e=>by exact J152 _⟩
 case round =>
  obtain ⟨i,c,da,dc,hi,rfl,rfl,rfl,HC,hc2,HO,HK,HB⟩:=hrel;have hrun:=HRUN.out i;rw [<- HC.out] at hrun;by_cases hlt:i < N
  ·have HDG:Hid (Calls Tryz.prog 47 #[.slice xa p xc, .int .i64 i] wr fun e w'=>e=.returned (.int .i64 ((x / 1000000000 ^ i % 1000000000:Nat):Int)) /\ wr=w'):=by
    rw [HPQ.out];exact zCQ 1000000000 (by decide) x i _ F xa xc (HX.out.keeps HK.out (fun _ _ h=>h))
   have hs:=zGC (b:=1000000000) (by decide) x k i;have hcn:=zEq (b:=1000000000) (by decide) x k (i+1) k0;have hd1:=zCS (b:=1000000000) (by decide) x i;rw [<- HC.out] at hs;rw [<- hs.2] at hcn;obtain ⟨m,hm⟩:=eX (x / 1000000000 ^ i % 1000000000*k);have hm2:m <= 1000000000*1000:=by rw [hm];exact Nat.mul_le_mul (by omega) hk
   have HD:Hid ((m+c) % 1000000000=x*k / 1000000000 ^ i % 1000000000 /\ (m+c) / 1000000000=x % 1000000000 ^ (i+1)*k / 1000000000 ^ (i+1)):=by rw [hm];exact hs
   have HC2:Hid ((m+c) / 1000000000 < 1000):=by rw [hm];show _ < _;omega
   clear hs hcn;generalize x / 1000000000 ^ i % 1000000000=d1 at HDG hd1 hm;have hmi:((d1:Int)*(k:Int))=(m:Int):=by rw [hm,Int.natCast_mul]
   have hor:=hrun.2 hlt;clear hrun hm;have i0:(0:Int) <= i:=by omega
   rcases (show (i < p) \/ (¬ i < p /\ 0 < c) by omega) with h | ⟨h,h2⟩
   ·have i1:(i:Int) < p:=by omega
    exact J18 _
   ·have i1:¬ (i:Int) < p:=by omega
    have i2:(0:Int) < c:=by omega
    exact J18 _
  ·exact J140 _
end Go.Proofs.YtoapgjjepiopbaaGreatDoor
