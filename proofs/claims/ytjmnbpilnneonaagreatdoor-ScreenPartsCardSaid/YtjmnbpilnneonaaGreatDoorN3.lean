/- Texts H2, H3 in one. -/
import Derived.Test.YtjmnbpilnneonaaGreatDoorN2
import Derived.Test.YtjmnbpilnneonaaGreatDoorM7
set_option linter.unusedVariables false
set_option linter.unusedSimpArgs false
set_option maxRecDepth 10000
namespace Go.Proofs.YtjmnbpilnneonaaGreatDoor
open Go.RowKit
def aO (s : Sc) (q tq : Nat) (od : DV) (m pr : Int) (d1 d2 d3 : DV) : List DV :=
  [.int .i64 s.rows, .int .i64 s.aa, .own q 0 s.cells.length, .int .i64 s.y, .int .i64 s.x, .bool s.wrap, .int .u16 s.attr, .int .i64 s.top, .int .i64 s.bot, .own tq 0 s.aU.length,
   .int .i64 s.sy, .int .i64 s.sx, .int .u16 s.fN, .bool s.auto, .bool s.shown, .bool s.alt, od, .int .i64 s.oy, .int .i64 s.ox, .int .i64 m, .int .u8 pr, d1, d2, d3]
def Dd (B:aj)(k:Nat):Prop:=∀ob,B[k]?≠some (some ob)
theorem Dd.ge {B:aj}{k:Nat}(h:B.length≤k):Dd B k:=fun ob e=>by have:=eB e;omega
def acy (n:aj)(T:aj)(o q tq:Nat)(s:Sc)(od:DV):Prop:=
 (∃oq,od=.own oq 0 s.other.length∧T[oq]?=some (some (.arr 3 (av s.other)))∧oq≠o∧oq≠q∧oq≠tq∧Dd n oq)∨(s.alt=false∧∃sz k,od=.sl sz [] k)
structure xE (p:Pa) (m pr:Int) (d1 d2 d3:DV):Prop where
 m:m=p.m
 pr:pr=p.pr
 i1:aD .i64 d1
 i2:aD .u8 d2
 i3:aD .u8 d3
 e1:aF d1=p.P
 e2:aF d2=p.I
 e3:aF d3=p.U
structure jE (n:aj) (T:aj) (o q tq:Nat) (s:Sc) (od:DV) (m pr:Int) (d1 d2 d3:DV):Prop where
 box:T[o]?=some (some (.box (aO s q tq od m pr d1 d2 d3)))
 cells:T[q]?=some (some (.arr 3 (av s.cells)))
 aU:T[tq]?=some (some (.arr 1 (bn s.aU)))
 oth:acy n T o q tq s od
 oq:o≠q
 ot:o≠tq
 qt:q≠tq
 no:Dd n o
 nq:Dd n q
 nt:Dd n tq
def aB (T0 T:aj)(o:Nat)(s:Sc)(p:Pa):Prop:=aA T0 T []∧∃q tq od m pr d1 d2 d3,xE p m pr d1 d2 d3∧jE T0 T o q tq s od m pr d1 d2 d3
theorem jE.mono {n:aj}{T T':aj}{o q tq:Nat}{s:Sc}{od:DV}{m pr:Int}{d1 d2 d3:DV}(h:jE n T o q tq s od m pr d1 d2 d3)(k:aA T T' []):jE n T' o q tq s od m pr d1 d2 d3:=
 ⟨k.at h.box (by simp),k.at h.cells (by simp),k.at h.aU (by simp),h.oth.imp (fun ⟨oq,h1,h2,h3⟩=>⟨oq,h1,k.at h2 (by simp),h3⟩) id,h.oq,h.ot,h.qt,h.no,h.nq,h.nt⟩
theorem jE.put {n:aj}{T:aj}{o q tq:Nat}{s:Sc}{od:DV}{m pr:Int}{d1 d2 d3:DV}(h:jE n T o q tq s od m pr d1 d2 d3){s':Sc}{m' pr':Int}{e1 e2 e3:DV}{l:List DV}(hl:l=aO s' q tq od m' pr' e1 e2 e3)
  (hc:s'.cells=s.cells) (ht:s'.aU=s.aU) (ha:s'.alt=s.alt) (ho:s'.other=s.other):jE n (T.set o (some (.box l))) o q tq s' od m' pr' e1 e2 e3:=by
 subst hl
 refine ⟨bX h.box _,by rw [hc];exact aY h.cells _ h.oq.symm,by rw [ht];exact aY h.aU _ h.ot.symm, ?_,h.oq,h.ot,h.qt,h.no,h.nq,h.nt⟩
 rcases h.oth with ⟨oq,h1,h2,h3,h4⟩ | ⟨h1,h2⟩
 ·exact .inl ⟨oq,by rw [ho];exact h1,by rw [ho];exact aY h2 _ h3,h3,h4⟩
 ·exact .inr ⟨by rw [ha];exact h1,h2⟩
theorem jE.aav {n:aj}{T T':aj}{o q tq p:Nat}{s:Sc}{od:DV}{m pr:Int}{d1 d2 d3:DV}(h:jE n T o q tq s od m pr d1 d2 d3)(k:aA T T' [])(hn:n.length≤T.length)(hp:T.length≤p){s':Sc}{l:List DV}(hl:l=aO s' p tq od m pr d1 d2 d3)
  (hc:T'[p]?=some (some (.arr 3 (av s'.cells)))) (ht:s'.aU=s.aU) (ha:s'.alt=s.alt) (ho:s'.other=s.other):jE n (T'.set o (some (.box l))) o p tq s' od m pr d1 d2 d3:=by
 subst hl
 have lo:=eB h.box
 have lt:=eB h.aU
 refine ⟨bX (k.at h.box (by simp)) _,aY hc _ (by omega),by rw [ht];exact aY (k.at h.aU (by simp)) _ h.ot.symm, ?_,by omega,h.ot,by omega,h.no,Dd.ge (by omega),h.nt⟩
 rcases h.oth with ⟨oq,h1,h2,h3,h4,h5⟩ | ⟨h1,h2⟩
 ·have lq:=eB h2
  exact .inl ⟨oq,by rw [ho];exact h1,by rw [ho];exact aY (k.at h2 (by simp)) _ h3,h3,by omega,h5⟩
 ·exact .inr ⟨by rw [ha];exact h1,h2⟩
theorem XU {T:aj}{q:Nat}{x:Option Ob}(h:T[q]?=some x):T.set q x=T:=by
 refine List.ext_getElem? fun i=>?_
 rw [List.getElem?_set]
 by_cases e:q=i
 ·subst e;rw [if_pos rfl,if_pos (eB h),h]
 ·rw [if_neg e]
theorem jE.tab {n:aj}{T:aj}{o q tq:Nat}{s:Sc}{od:DV}{m pr:Int}{d1 d2 d3:DV}(h:jE n T o q tq s od m pr d1 d2 d3){t':List Bool}(ht:t'.length=s.aU.length):jE n (T.set tq (some (.arr 1 (bn t')))) o q tq { s with aU:=t'} od m pr d1 d2 d3:=by
 refine ⟨?_,aY h.cells _ h.qt,bX h.aU _, ?_,h.oq,h.ot,h.qt,h.no,h.nq,h.nt⟩
 ·have:=aY h.box (some (.arr 1 (bn t'))) h.ot
  unfold aO at this ⊢
  dsimp only
  rw [ht]
  exact this
 ·exact h.oth.imp (fun ⟨oq,h1,h2,h3,h4,h5,h6⟩=>⟨oq,h1,aY h2 _ h5,h3,h4,h5,h6⟩) id
theorem jE.acZ {n:aj}{T T':aj}{o q tq:Nat}{s:Sc}{od:DV}{m pr:Int}{d1 d2 d3:DV}(h:jE n T o q tq s od m pr d1 d2 d3){L:List Ce}(k:aA T T' [q])(hc:T'[q]?=some (some (.arr 3 (av L))))(hl:L.length=s.cells.length):jE n T' o q tq { s with cells:=L} od m pr d1 d2 d3:=by
 refine ⟨?_,hc,k.at h.aU (by simpa using h.qt.symm), ?_,h.oq,h.ot,h.qt,h.no,h.nq,h.nt⟩
 ·have:=k.at h.box (by simpa using h.oq)
  unfold aO at this ⊢
  dsimp only
  rw [hl]
  exact this
 ·exact h.oth.imp (fun ⟨oq,h1,h2,h3,h4,h5,h6⟩=>⟨oq,h1,k.at h2 (by simpa using h4),h3,h4,h5,h6⟩) id
theorem fE (k:IntKind)(sz:Nat)(s:SK):aD k (.sl sz [] s):=⟨rfl,.inr rfl,fF _⟩
theorem aA.put {T0 T:aj}(k:aA T0 T []){o:Nat}(h:Dd T0 o)(x:Option Ob):aA T0 (T.set o x) []:=⟨by simpa using k.1,fun j ob hj hh=>by
 have hne:o≠j:=fun e=>h ob (by rw [e];exact hh)
 rw [List.getElem?_set_ne hne]
 exact k.2 j ob hj hh⟩
theorem aA.Ds {T0 T T':aj}(k:aA T0 T []){q:Nat}(kk:aA T T' [q])(h:Dd T0 q):aA T0 T' []:=⟨Nat.le_trans k.1 kk.1,fun j ob hj hh=>kk.2 j ob (by
 intro e
 have e:j=q:=by simpa using e
 exact h ob (by rw [←e];exact hh)) (k.2 j ob hj hh)⟩
theorem aB.Dr {T0 T T':aj}{o q tq p:Nat}{s s2:Sc}{pp:Pa}{od:DV}{m pr:Int}{d1 d2 d3:DV}{L:List Ce}(pa:xE pp m pr d1 d2 d3)(k0:aA T0 T [])(t:jE T0 T o q tq s od m pr d1 d2 d3)(k:aA T T' [])(hp:T.length≤p)(hc:T'[p]?=some (some (.arr 3 (av L))))
  (hl:L.length=s2.cells.length) (ht:s2.aU=s.aU) (ha:s2.alt=s.alt) (ho:s2.other=s.other):aB T0 (T'.set o (some (.box (aO s2 p tq od m pr d1 d2 d3)))) o { s2 with cells:=L} pp:=by
 refine ⟨(k0.new k (by simp)).put t.no _,p,tq,od,m,pr,d1,d2,d3,pa,t.aav k k0.1 hp (s':={ s2 with cells:=L}) ?_ hc ht ha ho⟩
 unfold aO
 dsimp only
 rw [hl]
noncomputable def AH:RFn:=⟨1,65,(SR [MV 2 0,OP 3 (.aC (.t 2)),FA 4 0 3,FA 5 5 4,NP (.store 1 (.t 5) (.c (.bool false)))] [0] (.blk 0 (.seq (.cK (.take (MV 7 0) [] (.take (OP 8 (.aC (.t 7))) [] (.take (FA 9 0 8) [] (.take (FA 10 3 9) [] (.take (LD 11 10) [] (.take (MV 12 0) [] (.take (OP 13 (.aC (.t 12))) [] (.take (FA 14 0 13) [] (.take (FA 15 8 14) [] (.take (LD 16 15) [] (.take (BT 17 .eql 11 16) [] (.take (MV 6 17) [] .done)))))))))))) 0 [0,6]) (.cond (.t 6) (.cK (.take (MV 18 0) [] (.take (MV 19 0) [] (.take (OP 20 (.aC (.t 19))) [] (.take (FA 21 0 20) [] (.take (FA 22 2 21) [] (.take (LD 23 22) [] (.take (MV 24 0) [] (.take (OP 25 (.aC (.t 24))) [] (.take (FA 26 0 25) [] (.take (FA 27 1 26) [] (.take (LD 28 27) [] (.take (MV 29 0) [] (.take (OP 30 (.aC (.t 29))) [] (.take (FA 31 0 30) [] (.take (FA 32 7 31) [] (.take (LD 33 32) [] (.take (MV 34 0) [] (.take (OP 35 (.aC (.t 34))) [] (.take (FA 36 0 35) [] (.take (FA 37 8 36) [] (.take (LD 38 37) [] (.mid (OP 39 (.call 130 [.t 23,.t 28,.t 33,.t 38,.c (.int .i64 1)])) (.take (OP 40 (.aC (.t 18))) [] (.take (FA 41 0 40) [] (.take (FA 42 2 41) [] (.op (SA 1 42 39) .done)))))))))))))))))))))))))) 0 []) (.seq (.cK (.take (MV 44 0) [] (.take (OP 45 (.aC (.t 44))) [] (.take (FA 46 0 45) [] (.take (FA 47 3 46) [] (.take (LD 48 47) [] (.take (MV 49 0) [] (.take (OP 50 (.aC (.t 49))) [] (.take (FA 51 0 50) [] (.take (FA 52 0 51) [] (.take (LD 53 52) [] (.take (BI 54 .sub 53 1) [] (.take (BT 55 .lss 48 54) [] (.take (MV 43 55) [] .done))))))))))))) 0 [0,43]) (.cond (.t 43) (.reg [MV 56 0,OP 57 (.aC (.t 56)),FA 58 0 57,FA 59 3 58,LD 60 59,BI 61 .add 60 1,OP 62 (.aC (.t 56)),FA 63 0 62,FA 64 3 63,SA 1 64 61] 0 []) .skip)))))),[]⟩
theorem Jv:aK PG.P [⟨0,0,[0],[]⟩,⟨1,0,[0,6],[]⟩,⟨2,0,[],[]⟩,⟨3,0,[0,43],[]⟩,⟨4,0,[],[]⟩] 97=some AH:=by kernel_rfl
theorem aB.mk {T0 T:aj}{o q tq:Nat}{s:Sc}{p:Pa}{od:DV}{m pr:Int}{d1 d2 d3:DV}(k:aA T0 T [])(pa:xE p m pr d1 d2 d3)(t:jE T0 T o q tq s od m pr d1 d2 d3):aB T0 T o s p:=⟨k,q,tq,od,m,pr,d1,d2,d3,pa,t⟩
theorem aB.keep {T0 T T':aj}{o:Nat}{s:Sc}{p:Pa}(h:aB T0 T o s p)(k:aA T T' []):aB T0 T' o s p:=
 let ⟨k0,q,tq,od,m,pr,d1,d2,d3,pa,t⟩:=h
 ⟨k0.new k (by simp),q,tq,od,m,pr,d1,d2,d3,pa,t.mono k⟩
theorem aB.base {T0 B T:aj}{o:Nat}{s:Sc}{p:Pa}(h:aB T0 T o s p)(k:aA B T0 []):aB B T o s p:=by
 obtain ⟨k0,q,tq,od,m,pr,d1,d2,d3,pa,t⟩:=h
 have dd:∀{j},Dd T0 j→Dd B j:=fun h ob e=>h ob (k.2 _ ob (by simp) e)
 exact ⟨k.new k0 (by simp),q,tq,od,m,pr,d1,d2,d3,pa,t.box,t.cells,t.aU,t.oth.imp (fun ⟨oq,a,b,c,d,e,f⟩=>⟨oq,a,b,c,d,e,dd f⟩) id,t.oq,t.ot,t.qt,dd t.no,dd t.nq,dd t.nt⟩
theorem aB.tight {T0 T:aj}{o:Nat}{s:Sc}{p:Pa}(h:aB T0 T o s p)(l:aj):∃B,aB B (T++l) o s p∧aA T0 B []∧B.length=(T++l).length∧∀(j:Nat) ob,T.length≤j→(T++l)[j]?=some (some ob)→B[j]?=some (some ob):=by
 obtain ⟨k0,q,tq,od,m,pr,d1,d2,d3,pa,t⟩:=h
 have lo:=eB t.box
 have lq:=eB t.cells
 have lt:=eB t.aU
 have self:∀(A:aj) (j:Nat),Dd (A.set j none) j:=fun A j ob e=>by
  rw [List.getElem?_set] at e
  simp at e
 have uN:∀{A:aj} {j i:Nat},Dd A j→Dd (A.set i none) j:=fun {A j i} h ob e=>by
  rw [List.getElem?_set] at e
  split at e
  ·simp at e
  ·exact h ob e
 have sub:∀{A C:aj} {i:Nat},aA A C []→aA (A.set i none) C []:=fun {A C i} k=>⟨by simpa using k.1,fun j ob hj e=>by
  rw [List.getElem?_set] at e
  split at e
  ·simp at e
  ·exact k.2 j ob hj e⟩
 rcases t.oth with ⟨oq,e,ho,n1,n2,n3,n4⟩ | hn
 ·have loq:=eB ho
  refine ⟨((((T++l).set o none).set q none).set tq none).set oq none,⟨sub (sub (sub (sub (aA.refl _ _)))),q,tq,od,m,pr,d1,d2,d3,pa,gO t.box l,gO t.cells l,gO t.aU l,.inl ⟨oq,e,gO ho l,n1,n2,n3,self _ _⟩,t.oq,t.ot,t.qt,uN (uN (uN (self _ _))),uN (uN (self _ _)),uN (self _ _)⟩,
   (((k0.eD l).put t.no none).put t.nq none).put t.nt none |>.put n4 none,by simp,fun j ob hj hh=>?_⟩
  rw [List.getElem?_set_ne (by omega),List.getElem?_set_ne (by omega),List.getElem?_set_ne (by omega),List.getElem?_set_ne (by omega)]
  exact hh
 ·refine ⟨(((T++l).set o none).set q none).set tq none,⟨sub (sub (sub (aA.refl _ _))),q,tq,od,m,pr,d1,d2,d3,pa,gO t.box l,gO t.cells l,gO t.aU l,.inr hn,t.oq,t.ot,t.qt,uN (uN (self _ _)),uN (self _ _),self _ _⟩,
   ((k0.eD l).put t.no none).put t.nq none |>.put t.nt none,by simp,fun j ob hj hh=>?_⟩
  rw [List.getElem?_set_ne (by omega),List.getElem?_set_ne (by omega),List.getElem?_set_ne (by omega)]
  exact hh
theorem aB.len {T0 T:aj}{o:Nat}{s:Sc}{p:Pa}(h:aB T0 T o s p):T0.length≤T.length:=h.1.1
theorem tW {T0 T:aj}{o:Nat}{s:Sc}{p:Pa}{K:DV→aj→Prop}(ok:aR s)(h:aB T0 T o s p)(hK:∀T',T.length≤T'.length→aB T0 T' o (cD s) p→K (.tup []) T'):aq PG 97 [.ptr o 0 0] T K:=by
 obtain ⟨k0,q,tq,od,m,pr,d1,d2,d3,pa,t⟩:=h
 have hb:=t.box
 unfold aO at hb
 refine aq.aE FOk.nil Jv (by simp [AH]) ?_
 unfold AH
 dsimp only
 rcases Decidable.em (s.y=s.bot) with c1 | c1
 ·have c1':(s.y:Int)=s.bot:=by omega
  have e:cD s={ s with wrap:=false,cells:=upF s.cells s.aa s.top s.bot 1}:=by unfold cD;rw [if_pos c1]
  rw [e] at hK
  simp -implicitDefEqProofs -dsimp only [ah,ai hb,eq_true c1',vcS,↓an,↓ak,simprocAttr]
  have t1:=t.put (s':={ s with wrap:=false}) (l:=aO { s with wrap:=false} q tq od m pr d1 d2 d3) rfl rfl rfl rfl rfl
  refine VJ t1.cells ok.g ok.tb ok.b fun T' p hp hc k=>?_
  have hb':=k.at t1.box (by simp)
  unfold aO at hb'
  simp -implicitDefEqProofs -dsimp only [ah,ai hb',eq_true c1',vcS,↓an,↓ak,simprocAttr]
  have l1:=k.1
  simp only [List.length_set] at l1 hp
  have t2:=t1.aav k (by simp;exact k0.1) (by simpa using hp) (s':={ s with wrap:=false,cells:=upF s.cells s.aa s.top s.bot 1}) (l:=aO { s with wrap:=false,cells:=upF s.cells s.aa s.top s.bot 1} p tq od m pr d1 d2 d3) rfl hc rfl rfl rfl
  have hl:=mL (n:=1) ok.g ok.b ok.tb
  unfold aO at t2
  simp only [hl] at t2
  exact ⟨by simpa using l1,hK _ (by simpa using l1) (.mk (((k0.put t.no _).new k (by simp)).put t.no _) pa t2)⟩
 ·have c1':¬(s.y:Int)=s.bot:=by omega
  have ry:=ok.g.r
  have w1:IntKind.i64.wrap ((s.rows:Int)-1)=(s.rows:Int)-1:=aP (by omega) (by omega)
  rcases Decidable.em (s.y+1<s.rows) with c2 | c2
  ·have c2':(s.y:Int)<(s.rows:Int)-1:=by omega
   have w2:IntKind.i64.wrap ((s.y:Int)+1)=((s.y+1:Nat):Int):=by rw [aP (by omega) (by omega)];omega
   have e:cD s={ s with wrap:=false,y:=s.y+1}:=by unfold cD;rw [if_neg c1,if_pos c2]
   rw [e] at hK
   simp -implicitDefEqProofs -dsimp only [ah,ai hb,c1',w1,c2',w2,List.set_set,vcS,↓an,↓ak,simprocAttr]
   exact ⟨by simp,hK _ (by simp) (.mk (k0.put t.no _) pa (t.put rfl rfl rfl rfl rfl))⟩
  ·have c2':¬(s.y:Int)<(s.rows:Int)-1:=by omega
   have e:cD s={ s with wrap:=false}:=by unfold cD;rw [if_neg c1,if_neg c2]
   rw [e] at hK
   simp -implicitDefEqProofs -dsimp only [ah,ai hb,c1',w1,c2',vcS,↓an,↓ak,simprocAttr]
   exact ⟨by simp,hK _ (by simp) (.mk (k0.put t.no _) pa (t.put rfl rfl rfl rfl rfl))⟩
noncomputable def M9:RFn:=⟨3,32,.cK (.take (MV 6 0) [] (.take (MV 7 0) [] (.take (MV 8 1) [] (.take (OP 9 (.mm true (.t 8) (.c (.int .i64 0)))) [] (.take (MV 10 0) [] (.take (OP 11 (.aC (.t 10))) [] (.take (FA 12 0 11) [] (.take (FA 13 0 12) [] (.take (LD 14 13) [] (.take (BI 15 .sub 14 1) [] (.take (OP 16 (.mm false (.t 9) (.t 15))) [] (.take (MV 17 2) [] (.take (OP 18 (.mm true (.t 17) (.c (.int .i64 0)))) [] (.take (MV 19 0) [] (.take (OP 20 (.aC (.t 19))) [] (.take (FA 21 0 20) [] (.take (FA 22 1 21) [] (.take (LD 23 22) [] (.take (BI 24 .sub 23 1) [] (.take (OP 25 (.mm false (.t 18) (.t 24))) [] (.take (OP 26 (.aC (.t 6))) [] (.take (FA 27 0 26) [] (.take (FA 28 3 27) [] (.op (SA 1 28 16) (.take (OP 29 (.aC (.t 7))) [] (.take (FA 30 0 29) [] (.take (FA 31 4 30) [] (.op (SA 1 31 25) .done)))))))))))))))))))))))))))) 0 [],[]⟩
theorem Si:aK PG.P [⟨0,0,[],[]⟩] 100=some M9:=by kernel_rfl
noncomputable def AI:RC:=(.seq (.seq (.cK (.take (MV 29 0) [] (.take (OP 30 (.aC (.t 29))) [] (.take (FA 31 0 30) [] (.take (FA 32 4 31) [] (.take (LD 33 32) [] (.take (MV 34 0) [] (.take (OP 35 (.aC (.t 34))) [] (.take (FA 36 0 35) [] (.take (FA 37 1 36) [] (.take (LD 38 37) [] (.take (BI 39 .sub 38 1) [] (.take (BT 40 .lss 33 39) [] (.take (MV 41 40) [] (.take (MG 42 0 41 true) [] (.take (OG 43 (.aC (.t 42)) 41 true) [] (.take (FG 44 0 43 41 true) [] (.take (FG 45 4 44 41 true) [] (.take (LG 46 45 41 true) [] (.take (MG 47 0 41 true) [] (.take (OG 48 (.aC (.t 47)) 41 true) [] (.take (FG 49 0 48 41 true) [] (.take (FG 50 9 49 41 true) [] (.take (LG 51 50 41 true) [] (.take (OG 52 (.len (.t 51)) 41 true) [] (.take (OG 53 (.bin .lss (.t 46) (.t 52)) 41 true) [] (.take (OP 54 (.pick (.t 41) (.t 53) (.c (.bool false)))) [] (.take (MV 55 54) [] (.take (MG 56 0 55 true) [] (.take (OG 57 (.aC (.t 56)) 55 true) [] (.take (FG 58 0 57 55 true) [] (.take (FG 59 9 58 55 true) [] (.take (LG 60 59 55 true) [] (.take (MG 61 0 55 true) [] (.take (OG 62 (.aC (.t 61)) 55 true) [] (.take (FG 63 0 62 55 true) [] (.take (FG 64 4 63 55 true) [] (.take (LG 65 64 55 true) [] (.take (OG 66 (.aT 1 (.t 60) (.t 65)) 55 true) [] (.take (LG 67 66 55 true) [] (.take (OG 68 (.un .not (.t 67)) 55 true) [] (.take (OP 69 (.pick (.t 55) (.t 68) (.c (.bool false)))) [] .done))))))))))))))))))))))))))))))))))))))))) 0 [0,69]) (.cond (.t 69) .skip (.ext 1))) (.seq (.blk 2 .skip) (.reg [MV 70 0,OP 71 (.aC (.t 70)),FA 72 0 71,FA 73 4 72,LD 74 73,BI 75 .add 74 1,OP 76 (.aC (.t 70)),FA 77 0 76,FA 78 4 77,SA 1 78 75] 0 [0])))
noncomputable def GN:RFn:=⟨2,111,.seq (SR [MV 4 1] [0,4] (.blk 0 (SR [OP 6 (.bin .eql (.t 4) (.c (.int .u8 8))),MV 5 6] [0,4,5] (.cond (.t 5) (.reg [MV 7 0,MV 8 0,OP 9 (.aC (.t 8)),FA 10 0 9,FA 11 4 10,LD 12 11,BI 13 .sub 12 1,OP 14 (.mm true (.t 13) (.c (.int .i64 0))),OP 15 (.aC (.t 7)),FA 16 0 15,FA 17 4 16,SA 1 17 14] 0 [0]) (SR [OP 19 (.bin .eql (.t 4) (.c (.int .u8 9))),MV 18 19] [0,4,18] (.cond (.t 18) (.seq (SR [MV 20 0,OP 21 (.aC (.t 20)),FA 22 0 21,FA 23 4 22,LD 24 23,BI 25 .add 24 1,OP 26 (.aC (.t 20)),FA 27 0 26,FA 28 4 27,SA 1 28 25] [0] (.blk 1 (.loop AI))) (.cK (.take (MV 79 0) [] (.take (MV 80 0) [] (.take (OP 81 (.aC (.t 80))) [] (.take (FA 82 0 81) [] (.take (FA 83 4 82) [] (.take (LD 84 83) [] (.take (MV 85 0) [] (.take (OP 86 (.aC (.t 85))) [] (.take (FA 87 0 86) [] (.take (FA 88 1 87) [] (.take (LD 89 88) [] (.take (BI 90 .sub 89 1) [] (.take (OP 91 (.mm false (.t 84) (.t 90))) [] (.take (OP 92 (.aC (.t 79))) [] (.take (FA 93 0 92) [] (.take (FA 94 4 93) [] (.op (SA 1 94 91) .done))))))))))))))))) 0 [0])) (.seq (SR [OP 96 (.bin .eql (.t 4) (.c (.int .u8 10))),MV 95 96] [0,4,95] (.cond (.t 95) .skip (SR [OP 97 (.bin .eql (.t 4) (.c (.int .u8 11))),MV 95 97] [0,4,95] (.cond (.t 95) .skip (.reg [OP 98 (.bin .eql (.t 4) (.c (.int .u8 12))),MV 95 98] 0 [0,4,95]))))) (.cond (.t 95) (.reg [MV 99 0,OP 100 (.call 97 [.t 99])] 0 [0]) (SR [OP 102 (.bin .eql (.t 4) (.c (.int .u8 13))),MV 101 102] [0,101] (.cond (.t 101) (.reg [MV 103 0,OP 104 (.aC (.t 103)),FA 105 0 104,FA 106 4 105,NP (.store 1 (.t 106) (.c (.int .i64 0)))] 0 [0]) .ret)))))))))) (.reg [MV 107 0,OP 108 (.aC (.t 107)),FA 109 0 108,FA 110 5 109,NP (.store 1 (.t 110) (.c (.bool false)))] 0 []),[]⟩
theorem Na:aK PG.P [⟨0,0,[0,4],[]⟩,⟨1,0,[0,4,5],[]⟩,⟨2,0,[0],[]⟩,⟨3,0,[0,4,18],[]⟩,⟨4,0,[0],[]⟩,⟨5,0,[0,69],[]⟩,⟨6,0,[0],[]⟩,⟨7,0,[0],[]⟩,⟨8,0,[0,4,95],[]⟩,⟨9,0,[0,4,95],[]⟩,⟨10,0,[0,4,95],[]⟩,⟨11,0,[0],[]⟩,⟨12,0,[0,101],[]⟩,⟨13,0,[0],[]⟩,⟨14,0,[],[]⟩] 63=some GN:=by kernel_rfl
def toP (s:Sc)(y x:Int):Sc:={ s with y:=min y.toNat (s.rows-1),x:=min x.toNat (s.aa-1)}
theorem Za {T:aj}{o q tq:Nat}{s:Sc}{od:DV}{m pr:Int}{d1 d2 d3:DV}{y x:Int}{K:DV→aj→Prop}(hr:1≤s.rows∧s.rows≤1000)(hc:1≤s.aa∧s.aa≤1000)(hb:T[o]?=some (some (.box (aO s q tq od m pr d1 d2 d3))))
  (kk:K (.tup []) (T.set o (some (.box (aO (toP s y x) q tq od m pr d1 d2 d3))))):aq PG 100 [.ptr o 0 0,.int .i64 y,.int .i64 x] T K:=by
 unfold aO at hb
 refine aq.aE FOk.nil Si (by simp [M9]) ?_
 unfold M9
 dsimp only
 have w1:IntKind.i64.wrap ((s.rows:Int)-1)=((s.rows-1:Nat):Int):=by rw [aP (by omega) (by omega)];omega
 have w2:IntKind.i64.wrap ((s.aa:Int)-1)=((s.aa-1:Nat):Int):=by rw [aP (by omega) (by omega)];omega
 have e1:min (max y 0) ((s.rows-1:Nat):Int)=((min y.toNat (s.rows-1):Nat):Int):=by omega
 have e2:min (max x 0) ((s.aa-1:Nat):Int)=((min x.toNat (s.aa-1):Nat):Int):=by omega
 simp -implicitDefEqProofs -dsimp only [ah,ai hb,w1,w2,e1,e2,List.set_set,vcS,↓an,↓ak,simprocAttr]
 repeat' (first | exact kk | (simp;done) | apply And.intro)
theorem tV {T0 T:aj}{o:Nat}{s:Sc}{p:Pa}{y x:Int}{K:DV→aj→Prop}(hr:1≤s.rows∧s.rows≤1000)(hc:1≤s.aa∧s.aa≤1000)(h:aB T0 T o s p)(hK:∀T',T.length≤T'.length→aB T0 T' o (toP s y x) p→K (.tup []) T') :
  aq PG 100 [.ptr o 0 0,.int .i64 y,.int .i64 x] T K:=by
 obtain ⟨k0,q,tq,od,m,pr,d1,d2,d3,pa,t⟩:=h
 exact Za hr hc t.box (hK _ (by simp) (.mk (k0.put t.no _) pa (t.put rfl rfl rfl rfl rfl)))
theorem vW {t:List Bool}{c:Nat}:∀(f x:Nat),c-x≤f→pe t c f x=pe t c (c-x) x
 | 0,x,h=>by rw [Nat.le_zero.1 h]
 | f+1,x,h=>by
  rcases Decidable.em (x+1<c∧t.getD x false=false) with hx | hx
  ·have e:c-x=(c-(x+1))+1:=by omega
   rw [e]
   simp only [pe,if_pos hx]
   rw [vW f (x+1) (by omega)]
  ·rcases Nat.eq_zero_or_pos (c-x) with h0 | h0
   ·rw [h0];simp only [pe,if_neg hx]
   ·obtain ⟨k,hk⟩:∃k,c-x=k+1:=⟨c-x-1,by omega⟩
    rw [hk];simp only [pe,if_neg hx]
theorem OD {t:List Bool}{c x:Nat}(h:x+1<c)(ht:t.getD x false=false):pe t c c x=pe t c c (x+1):=by
 rw [vW c x (by omega),vW c (x+1) (by omega)]
 have e:c-x=(c-(x+1))+1:=by omega
 rw [e]
 simp only [pe,if_pos (show x+1<c∧t.getD x false=false from ⟨h,ht⟩)]
theorem qJ {t:List Bool}{c x:Nat}(h:¬(x+1<c∧t.getD x false=false)):pe t c c x=x:=by
 cases c with
 | zero=>rfl
 | succ c=>simp only [pe,if_neg h]
theorem ZI {T0 T:aj}{o:Nat}{s:Sc}{p:Pa}{b:Int}{K:DV→aj→Prop}(ok:aR s)(h:aB T0 T o s p)(hK:∀T',T.length≤T'.length→aB T0 T' o (xz s b) p→K (.tup []) T'):aq PG 63 [.ptr o 0 0,.int .u8 b] T K:=by
 obtain ⟨k0,q,tq,od,m,pr,d1,d2,d3,pa,t⟩:=id h
 have hb:=t.box
 unfold aO at hb
 have hr:=ok.g.r
 have hc:=ok.g.c
 have hy:=ok.y
 have hx:=ok.x
 refine aq.aE FOk.nil Na (by simp [GN]) ?_
 unfold GN
 dsimp only
 unfold xz at hK
 rcases Decidable.em (b=8) with b1 | b1
 ·rw [if_pos b1] at hK
  have w1:max (IntKind.i64.wrap ((s.x:Int)-1)) 0=((s.x-1:Nat):Int):=by rw [aP (by omega) (by omega)];omega
  simp -implicitDefEqProofs -dsimp only [ah,ai hb,eq_true b1,w1,List.set_set,vcS,↓an,↓ak,simprocAttr]
  exact ⟨by simp,hK _ (by simp) (.mk (k0.put t.no _) pa (t.put rfl rfl rfl rfl rfl))⟩
 rw [if_neg b1] at hK
 rcases Decidable.em (b=9) with b2 | b2
 ·rw [if_pos b2] at hK
  have w1:IntKind.i64.wrap ((s.x:Int)+1)=((s.x+1:Nat):Int):=by rw [aP (by omega) (by omega)];omega
  have w2:IntKind.i64.wrap ((s.aa:Int)-1)=((s.aa-1:Nat):Int):=by rw [aP (by omega) (by omega)];omega
  simp -implicitDefEqProofs -dsimp only [ah,ai hb,eq_false b1,eq_true b2,w1,w2,List.set_set,vcS,↓an,↓ak,simprocAttr]
  refine bp.inv FOk.nil (S:=fun i:Nat=>⟨[(0,.ptr o 0 0)],T.set o (some (.box (aO { s with x:=i} q tq od m pr d1 d2 d3)))⟩)
   (I:=fun i=>i≤s.aa∧pe s.aU s.aa s.aa i=pe s.aU s.aa s.aa (s.x+1)) (μ:=fun i=>s.aa-i) (s.x+1) ⟨by omega,rfl⟩ ?_ ?_
  ·simp -implicitDefEqProofs -dsimp only [ax,vcS,↓an,↓ak,simprocAttr]
   exact aJ _
  ·intro i ⟨hi,hn⟩
   unfold AI
   have ti:=t.put (s':={ s with x:=i}) (l:=aO { s with x:=i} q tq od m pr d1 d2 d3) rfl rfl rfl rfl rfl
   have hbi:=ti.box
   have hti:=ti.aU
   unfold aO at hbi hti ⊢
   dsimp only at hbi hti ⊢
   have i0:(0:Int)≤i:=by omega
   have fin:i≤s.aa→pe s.aU s.aa s.aa i=i→∀T',T'=((T.set o (some (.box (aO { s with x:=i} q tq od m pr d1 d2 d3)))).set o (some (.box (aO { s with x:=min i (s.aa-1)} q tq od m pr d1 d2 d3)))).set o (some (.box (aO { s with x:=min i (s.aa-1),wrap:=false} q tq od m pr d1 d2 d3)))→K (.tup []) T':=fun _ e T' eT=>by
    subst eT
    refine hK _ (by simp) ?_
    rw [←hn,e]
    rw [List.set_set,List.set_set]
    exact .mk (k0.put t.no _) pa (t.put rfl rfl rfl rfl rfl)
   have m1:min (i:Int) ((s.aa-1:Nat):Int)=((min i (s.aa-1):Nat):Int):=by omega
   have w3:IntKind.i64.wrap ((i:Int)+1)=((i+1:Nat):Int):=by rw [aP (by omega) (by omega)];omega
   rcases Decidable.em (i+1<s.aa) with h1 | h1
   ·have h1':(i:Int)<((s.aa-1:Nat):Int):=by omega
    have h2':(i:Int)<(s.aU.length:Int):=by rw [ok.aU];omega
    have hg:=fc (L:=s.aU) (i:=i) (by rw [ok.aU];omega)
    cases h3:s.aU.getD i false with
    | true=>
     rw [h3] at hg
     simp -implicitDefEqProofs -dsimp only [ah,ai hbi,ai hti,i0,w2,h1',h2',hg,bC,m1,Nat.zero_add,vcS,↓an,↓ak,simprocAttr]
     exact ⟨by simp,fin hi (qJ (by simp only [h3];simp)) _ rfl⟩
    | false=>
     rw [h3] at hg
     simp -implicitDefEqProofs -dsimp only [ah,ai hbi,ai hti,i0,w2,w3,h1',h2',hg,bC,m1,Nat.zero_add,ax,List.set_set,vcS,↓an,↓ak,simprocAttr]
     exact ⟨i+1,aJ _,⟨by omega,by rw [←hn];exact (OD h1 h3).symm⟩,by omega⟩
   ·have h1':¬(i:Int)<((s.aa-1:Nat):Int):=by omega
    simp -implicitDefEqProofs -dsimp only [ah,ai hbi,ai hti,i0,w2,h1',m1,Nat.zero_add,vcS,↓an,↓ak,simprocAttr]
    exact ⟨by simp,fin hi (qJ (by omega)) _ rfl⟩
 rw [if_neg b2] at hK
 rcases Decidable.em (b=10∨b=11∨b=12) with b3 | b3
 ·rw [if_pos b3] at hK
  have hw:=(gY ok).2.2.2.2.1
  have ew:{ cD s with wrap:=false}=cD s:=by
   generalize cD s=n at hw ⊢
   cases n
   simp only at hw
   subst hw
   rfl
  rcases b3 with rfl | rfl | rfl
  all_goals
   simp -implicitDefEqProofs -dsimp only [ah,vcS,↓an,↓ak,simprocAttr]
   refine tW ok h fun T' l t'=>?_
   obtain ⟨k1,q',tq',od',m',pr',e1,e2,e3,pa',t2⟩:=t'
   have hb2:=t2.box
   unfold aO at hb2
   simp -implicitDefEqProofs -dsimp only [ah,ai hb2,vcS,↓an,↓ak,simprocAttr]
   refine ⟨by simpa using l,hK _ (by simpa using l) ?_⟩
   rw [←ew]
   exact .mk (k1.put t2.no _) pa' (t2.put rfl rfl rfl rfl rfl)
 rw [if_neg b3] at hK
 have b31:¬b=10:=by omega
 have b32:¬b=11:=by omega
 have b33:¬b=12:=by omega
 rcases Decidable.em (b=13) with b4 | b4
 ·rw [if_pos b4] at hK
  simp -implicitDefEqProofs -dsimp only [ah,ai hb,eq_false b1,eq_false b2,eq_false b31,eq_false b32,eq_false b33,eq_true b4,List.set_set,vcS,↓an,↓ak,simprocAttr]
  exact ⟨by simp,hK _ (by simp) (.mk (k0.put t.no _) pa (t.put rfl rfl rfl rfl rfl))⟩
 ·rw [if_neg b4] at hK
  simp -implicitDefEqProofs -dsimp only [ah,ai hb,eq_false b1,eq_false b2,eq_false b31,eq_false b32,eq_false b33,eq_false b4,List.set_set,vcS,↓an,↓ak,simprocAttr]
  exact hK _ (Nat.le_refl _) h
end Go.Proofs.YtjmnbpilnneonaaGreatDoor
