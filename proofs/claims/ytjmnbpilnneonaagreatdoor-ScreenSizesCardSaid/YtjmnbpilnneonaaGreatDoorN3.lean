/- Texts H2, H3 in one. -/
import Derived.Test.YtjmnbpilnneonaaGreatDoorN2
import Derived.Test.YtjmnbpilnneonaaGreatDoorM7
set_option linter.unusedVariables false
set_option linter.unusedSimpArgs false
set_option maxRecDepth 10000
namespace Go.Proofs.YtjmnbpilnneonaaGreatDoor
open Go.RowKit
noncomputable section
variable {T T0 T' n:ay}{o q tq:Nat}{s:Sc}{od d1 d2 d3:DV}{m pr:Int}{p:Pa}{K:DV->ay->Prop}
def aN (s : Sc) (q tq : Nat) (od : DV) (m pr : Int) (d1 d2 d3 : DV) : List DV :=
  [.int .i64 s.rows, .int .i64 s.aa, .own q 0 s.cells.length, .int .i64 s.y, .int .i64 s.x, .bool s.wrap, .int .u16 s.attr, .int .i64 s.top, .int .i64 s.bot, .own tq 0 s.aP.length,
   .int .i64 s.sy, .int .i64 s.sx, .int .u16 s.eg, .bool s.auto, .bool s.shown, .bool s.alt, od, .int .i64 s.oy, .int .i64 s.ox, .int .i64 m, .int .u8 pr, d1, d2, d3]
def Dd (B:ay)(k:Nat):Prop:=∀ob,B[k]?≠some (some ob)
theorem Dd.ge {B:ay}{k:Nat}(h:B.length<=k):Dd B k:=fun ob e=>by have:=eI e;omega
def adR (n:ay)(T:ay)(o q tq:Nat)(s:Sc)(od:DV):Prop:=
 (∃oq,od=.own oq 0 s.other.length/\T[oq]?=some (some (.arr 3 (aq s.other)))/\oq≠o/\oq≠q/\oq≠tq/\Dd n oq)\/(s.alt=false/\∃sz k,od=.sl sz [] k)
structure xH (p:Pa) (m pr:Int) (d1 d2 d3:DV):Prop where
 m:m=p.m
 pr:pr=p.pr
 i1:aD .i64 d1
 i2:aD .u8 d2
 i3:aD .u8 d3
 e1:aG d1=p.P
 e2:aG d2=p.I
 e3:aG d3=p.U
structure jT (n:ay) (T:ay) (o q tq:Nat) (s:Sc) (od:DV) (m pr:Int) (d1 d2 d3:DV):Prop where
 box:T[o]?=some (some (.box (aN s q tq od m pr d1 d2 d3)))
 cells:T[q]?=some (some (.arr 3 (aq s.cells)))
 aP:T[tq]?=some (some (.arr 1 (bg s.aP)))
 oth:adR n T o q tq s od
 oq:o≠q
 ot:o≠tq
 qt:q≠tq
 no:Dd n o
 nq:Dd n q
 nt:Dd n tq
def aB (T0 T:ay)(o:Nat)(s:Sc)(p:Pa):Prop:=ax T0 T []/\∃q tq od m pr d1 d2 d3,xH p m pr d1 d2 d3/\jT T0 T o q tq s od m pr d1 d2 d3
theorem jT.mono (h:jT n T o q tq s od m pr d1 d2 d3)(k:ax T T' []):jT n T' o q tq s od m pr d1 d2 d3:=
 ⟨k.at h.box (by simp),k.at h.cells (by simp),k.at h.aP (by simp),h.oth.imp (fun ⟨oq,h1,h2,h3⟩=>⟨oq,h1,k.at h2 (by simp),h3⟩) id,h.oq,h.ot,h.qt,h.no,h.nq,h.nt⟩
theorem jT.put (h:jT n T o q tq s od m pr d1 d2 d3){s':Sc}{m' pr':Int}{e1 e2 e3:DV}{l:List DV}(hl:l=aN s' q tq od m' pr' e1 e2 e3)
  (hc:s'.cells=s.cells) (ht:s'.aP=s.aP) (ha:s'.alt=s.alt) (ho:s'.other=s.other):jT n (T.set o (some (.box l))) o q tq s' od m' pr' e1 e2 e3:=by
 subst hl
 refine ⟨bZ h.box _,by rw[hc];exact bn h.cells _ h.oq.symm,by rw[ht];exact bn h.aP _ h.ot.symm, ?_,h.oq,h.ot,h.qt,h.no,h.nq,h.nt⟩
 rcases h.oth with ⟨oq,h1,h2,h3,h4⟩ | ⟨h1,h2⟩
 ·exact .inl ⟨oq,by rw[ho];exact h1,by rw[ho];exact bn h2 _ h3,h3,h4⟩
 ·exact .inr ⟨by rw[ha];exact h1,h2⟩
theorem jT.abH {p:Nat}(h:jT n T o q tq s od m pr d1 d2 d3)(k:ax T T' [])(hn:n.length<=T.length)(hp:T.length<=p){s':Sc}{l:List DV}(hl:l=aN s' p tq od m pr d1 d2 d3)
  (hc:T'[p]?=some (some (.arr 3 (aq s'.cells)))) (ht:s'.aP=s.aP) (ha:s'.alt=s.alt) (ho:s'.other=s.other):jT n (T'.set o (some (.box l))) o p tq s' od m pr d1 d2 d3:=by
 subst hl
 have lo:=eI h.box
 have lt:=eI h.aP
 refine ⟨bZ (k.at h.box (by simp)) _,bn hc _ (by omega),by rw[ht];exact bn (k.at h.aP (by simp)) _ h.ot.symm, ?_,by omega,h.ot,by omega,h.no,Dd.ge (by omega),h.nt⟩
 rcases h.oth with ⟨oq,h1,h2,h3,h4,h5⟩ | ⟨h1,h2⟩
 ·have lq:=eI h2
  exact .inl ⟨oq,by rw[ho];exact h1,by rw[ho];exact bn (k.at h2 (by simp)) _ h3,h3,by omega,h5⟩
 ·exact .inr ⟨by rw[ha];exact h1,h2⟩
theorem Xa {x:Option Ob}(h:T[q]?=some x):T.set q x=T:=by
 refine List.ext_getElem? fun i=>?_
 rw[List.getElem?_set]
 by_cases e:q=i
 ·subst e;rw[if_pos rfl,if_pos (eI h),h]
 ·rw[if_neg e]
theorem jT.tab (h:jT n T o q tq s od m pr d1 d2 d3){t':List Bool}(ht:t'.length=s.aP.length):jT n (T.set tq (some (.arr 1 (bg t')))) o q tq { s with aP:=t'} od m pr d1 d2 d3:=by
 refine ⟨?_,bn h.cells _ h.qt,bZ h.aP _, ?_,h.oq,h.ot,h.qt,h.no,h.nq,h.nt⟩
 ·have:=bn h.box (some (.arr 1 (bg t'))) h.ot
  unfold aN at this ⊢
  dsimp only
  rw[ht]
  exact this
 ·exact h.oth.imp (fun ⟨oq,h1,h2,h3,h4,h5,h6⟩=>⟨oq,h1,bn h2 _ h5,h3,h4,h5,h6⟩) id
theorem jT.aez (h:jT n T o q tq s od m pr d1 d2 d3){L:List Ce}(k:ax T T' [q])(hc:T'[q]?=some (some (.arr 3 (aq L))))(hl:L.length=s.cells.length):jT n T' o q tq { s with cells:=L} od m pr d1 d2 d3:=by
 refine ⟨?_,hc,k.at h.aP (by simpa using h.qt.symm), ?_,h.oq,h.ot,h.qt,h.no,h.nq,h.nt⟩
 ·have:=k.at h.box (by simpa using h.oq)
  unfold aN at this ⊢
  dsimp only
  rw[hl]
  exact this
 ·exact h.oth.imp (fun ⟨oq,h1,h2,h3,h4,h5,h6⟩=>⟨oq,h1,k.at h2 (by simpa using h4),h3,h4,h5,h6⟩) id
theorem fP (k:IntKind)(sz:Nat)(s:SK):aD k (.sl sz [] s):=⟨rfl,.inr rfl,fQ _⟩
theorem ax.put (k:ax T0 T []){o:Nat}(h:Dd T0 o)(x:Option Ob):ax T0 (T.set o x) []:=⟨by simpa using k.1,fun j ob hj hh=>by
 have hne:o≠j:=fun e=>h ob (by rw[e];exact hh)
 rw[List.getElem?_set_ne hne]
 exact k.2 j ob hj hh⟩
theorem ax.BU (k:ax T0 T []){q:Nat}(kk:ax T T' [q])(h:Dd T0 q):ax T0 T' []:=⟨Nat.le_trans k.1 kk.1,fun j ob hj hh=>kk.2 j ob (by
 intro e
 have e:j=q:=by simpa using e
 exact h ob (by rw[<-e];exact hh)) (k.2 j ob hj hh)⟩
theorem aB.BS {p:Nat}{s2:Sc}{pp:Pa}{L:List Ce}(pa:xH pp m pr d1 d2 d3)(k0:ax T0 T [])(t:jT T0 T o q tq s od m pr d1 d2 d3)(k:ax T T' [])(hp:T.length<=p)(hc:T'[p]?=some (some (.arr 3 (aq L))))
  (hl:L.length=s2.cells.length) (ht:s2.aP=s.aP) (ha:s2.alt=s.alt) (ho:s2.other=s.other):aB T0 (T'.set o (some (.box (aN s2 p tq od m pr d1 d2 d3)))) o { s2 with cells:=L} pp:=by
 refine ⟨(k0.new k (by simp)).put t.no _,p,tq,od,m,pr,d1,d2,d3,pa,t.abH k k0.1 hp (s':={ s2 with cells:=L}) ?_ hc ht ha ho⟩
 unfold aN
 dsimp only
 rw[hl]
def u7:RFn:=⟨1,65,(SR [MV 2 0,OP 3 (.aF (.t 2)),FA 4 0 3,FA 5 5 4,NP (.store 1 (.t 5) (.c (.bool false)))] [0] (.blk 0 (.seq (.cJ (.take (MV 7 0) [] (.take (OP 8 (.aF (.t 7))) [] (.take (FA 9 0 8) [] (.take (FA 10 3 9) [] (.take (LD 11 10) [] (.take (MV 12 0) [] (.take (OP 13 (.aF (.t 12))) [] (.take (FA 14 0 13) [] (.take (FA 15 8 14) [] (.take (LD 16 15) [] (.take (BT 17 .eql 11 16) [] (.take (MV 6 17) [] .done)))))))))))) 0 [0,6]) (.cond (.t 6) (.cJ (.take (MV 18 0) [] (.take (MV 19 0) [] (.take (OP 20 (.aF (.t 19))) [] (.take (FA 21 0 20) [] (.take (FA 22 2 21) [] (.take (LD 23 22) [] (.take (MV 24 0) [] (.take (OP 25 (.aF (.t 24))) [] (.take (FA 26 0 25) [] (.take (FA 27 1 26) [] (.take (LD 28 27) [] (.take (MV 29 0) [] (.take (OP 30 (.aF (.t 29))) [] (.take (FA 31 0 30) [] (.take (FA 32 7 31) [] (.take (LD 33 32) [] (.take (MV 34 0) [] (.take (OP 35 (.aF (.t 34))) [] (.take (FA 36 0 35) [] (.take (FA 37 8 36) [] (.take (LD 38 37) [] (.mid (OP 39 (.call 130 [.t 23,.t 28,.t 33,.t 38,.c (.int .i64 1)])) (.take (OP 40 (.aF (.t 18))) [] (.take (FA 41 0 40) [] (.take (FA 42 2 41) [] (.op (SA 1 42 39) .done)))))))))))))))))))))))))) 0 []) (.seq (.cJ (.take (MV 44 0) [] (.take (OP 45 (.aF (.t 44))) [] (.take (FA 46 0 45) [] (.take (FA 47 3 46) [] (.take (LD 48 47) [] (.take (MV 49 0) [] (.take (OP 50 (.aF (.t 49))) [] (.take (FA 51 0 50) [] (.take (FA 52 0 51) [] (.take (LD 53 52) [] (.take (BI 54 .sub 53 1) [] (.take (BT 55 .lss 48 54) [] (.take (MV 43 55) [] .done))))))))))))) 0 [0,43]) (.cond (.t 43) (.reg [MV 56 0,OP 57 (.aF (.t 56)),FA 58 0 57,FA 59 3 58,LD 60 59,BI 61 .add 60 1,OP 62 (.aF (.t 56)),FA 63 0 62,FA 64 3 63,SA 1 64 61] 0 []) .skip)))))),[]⟩
theorem GH:aK PG.P (aA PG.P 97 u7) 97=some u7:=by kernel_rfl
theorem aB.mk (k:ax T0 T [])(pa:xH p m pr d1 d2 d3)(t:jT T0 T o q tq s od m pr d1 d2 d3):aB T0 T o s p:=⟨k,q,tq,od,m,pr,d1,d2,d3,pa,t⟩
theorem aB.keep (h:aB T0 T o s p)(k:ax T T' []):aB T0 T' o s p:=
 let ⟨k0,q,tq,od,m,pr,d1,d2,d3,pa,t⟩:=h
 ⟨k0.new k (by simp),q,tq,od,m,pr,d1,d2,d3,pa,t.mono k⟩
theorem aB.base {B:ay}(h:aB T0 T o s p)(k:ax B T0 []):aB B T o s p:=by
 obtain ⟨k0,q,tq,od,m,pr,d1,d2,d3,pa,t⟩:=h
 have dd:∀{j},Dd T0 j->Dd B j:=fun h ob e=>h ob (k.2 _ ob (by simp) e)
 exact ⟨k.new k0 (by simp),q,tq,od,m,pr,d1,d2,d3,pa,t.box,t.cells,t.aP,t.oth.imp (fun ⟨oq,a,b,c,d,e,f⟩=>⟨oq,a,b,c,d,e,dd f⟩) id,t.oq,t.ot,t.qt,dd t.no,dd t.nq,dd t.nt⟩
theorem aB.tight (h:aB T0 T o s p)(l:ay):∃B,aB B (T++l) o s p/\ax T0 B []/\B.length=(T++l).length/\∀(j:Nat) ob,T.length<=j->(T++l)[j]?=some (some ob)->B[j]?=some (some ob):=by
 obtain ⟨k0,q,tq,od,m,pr,d1,d2,d3,pa,t⟩:=h
 have lo:=eI t.box
 have lq:=eI t.cells
 have lt:=eI t.aP
 have self:∀(A:ay) (j:Nat),Dd (A.set j none) j:=fun A j ob e=>by
  rw[List.getElem?_set] at e
  simp at e
 have vN:∀{A:ay} {j i:Nat},Dd A j->Dd (A.set i none) j:=fun {A j i} h ob e=>by
  rw[List.getElem?_set] at e
  split at e
  ·simp at e
  ·exact h ob e
 have sub:∀{A C:ay} {i:Nat},ax A C []->ax (A.set i none) C []:=fun {A C i} k=>⟨by simpa using k.1,fun j ob hj e=>by
  rw[List.getElem?_set] at e
  split at e
  ·simp at e
  ·exact k.2 j ob hj e⟩
 rcases t.oth with ⟨oq,e,ho,n1,n2,n3,n4⟩ | hn
 ·have loq:=eI ho
  refine ⟨((((T++l).set o none).set q none).set tq none).set oq none,⟨sub (sub (sub (sub (ax.refl _ _)))),q,tq,od,m,pr,d1,d2,d3,pa,hO t.box l,hO t.cells l,hO t.aP l,.inl ⟨oq,e,hO ho l,n1,n2,n3,self _ _⟩,t.oq,t.ot,t.qt,vN (vN (vN (self _ _))),vN (vN (self _ _)),vN (self _ _)⟩,
   (((k0.dU l).put t.no none).put t.nq none).put t.nt none |>.put n4 none,by simp,fun j ob hj hh=>?_⟩
  rw[List.getElem?_set_ne (by omega),List.getElem?_set_ne (by omega),List.getElem?_set_ne (by omega),List.getElem?_set_ne (by omega)]
  exact hh
 ·refine ⟨(((T++l).set o none).set q none).set tq none,⟨sub (sub (sub (ax.refl _ _))),q,tq,od,m,pr,d1,d2,d3,pa,hO t.box l,hO t.cells l,hO t.aP l,.inr hn,t.oq,t.ot,t.qt,vN (vN (self _ _)),vN (self _ _),self _ _⟩,
   ((k0.dU l).put t.no none).put t.nq none |>.put t.nt none,by simp,fun j ob hj hh=>?_⟩
  rw[List.getElem?_set_ne (by omega),List.getElem?_set_ne (by omega),List.getElem?_set_ne (by omega)]
  exact hh
theorem aB.len (h:aB T0 T o s p):T0.length<=T.length:=h.1.1
theorem uC (ok:aR s)(h:aB T0 T o s p)(hK:∀T',T.length<=T'.length->aB T0 T' o (cH s) p->K (.tup []) T'):aj PG 97 [.ptr o 0 0] T K:=by
 obtain ⟨k0,q,tq,od,m,pr,d1,d2,d3,pa,t⟩:=h
 have hb:=t.box
 unfold aN at hb
 refine aj.aE FOk.nil GH (by simp[u7]) ?_
 unfold u7
 dsimp only
 rcases Decidable.em (s.y=s.bot) with c1 | c1
 ·have c1':(s.y:Int)=s.bot:=by omega
  have e:cH s={ s with wrap:=false,cells:=upF s.cells s.aa s.top s.bot 1}:=by unfold cH;rw[if_pos c1]
  rw[e] at hK
  simp -implicitDefEqProofs -dsimp only[ah,ai hb,eq_true c1',vcS,↓vcQ,simprocAttr]
  have t1:=t.put (s':={ s with wrap:=false}) (l:=aN { s with wrap:=false} q tq od m pr d1 d2 d3) rfl rfl rfl rfl rfl
  refine TD t1.cells ok.g ok.tb ok.b fun T' p hp hc k=>?_
  have hb':=k.at t1.box (by simp)
  unfold aN at hb'
  simp -implicitDefEqProofs -dsimp only[ah,ai hb',eq_true c1',vcS,↓vcQ,simprocAttr]
  have l1:=k.1
  simp only[List.length_set] at l1 hp
  have t2:=t1.abH k (by simp;exact k0.1) (by simpa using hp) (s':={ s with wrap:=false,cells:=upF s.cells s.aa s.top s.bot 1}) (l:=aN { s with wrap:=false,cells:=upF s.cells s.aa s.top s.bot 1} p tq od m pr d1 d2 d3) rfl hc rfl rfl rfl
  have hl:=m3 (n:=1) ok.g ok.b ok.tb
  unfold aN at t2
  simp only[hl] at t2
  exact ⟨by simpa using l1,hK _ (by simpa using l1) (.mk (((k0.put t.no _).new k (by simp)).put t.no _) pa t2)⟩
 ·have c1':¬(s.y:Int)=s.bot:=by omega
  have ry:=ok.g.r
  have w1:IntKind.i64.wrap ((s.rows:Int)-1)=(s.rows:Int)-1:=aO (by omega) (by omega)
  rcases Decidable.em (s.y+1<s.rows) with c2 | c2
  ·have c2':(s.y:Int)<(s.rows:Int)-1:=by omega
   have w2:IntKind.i64.wrap ((s.y:Int)+1)=((s.y+1:Nat):Int):=by rw[aO (by omega) (by omega)];omega
   have e:cH s={ s with wrap:=false,y:=s.y+1}:=by unfold cH;rw[if_neg c1,if_pos c2]
   rw[e] at hK
   simp -implicitDefEqProofs -dsimp only[ah,ai hb,c1',w1,c2',w2,List.set_set,vcS,↓vcQ,simprocAttr]
   exact ⟨by simp,hK _ (by simp) (.mk (k0.put t.no _) pa (t.put rfl rfl rfl rfl rfl))⟩
  ·have c2':¬(s.y:Int)<(s.rows:Int)-1:=by omega
   have e:cH s={ s with wrap:=false}:=by unfold cH;rw[if_neg c1,if_neg c2]
   rw[e] at hK
   simp -implicitDefEqProofs -dsimp only[ah,ai hb,c1',w1,c2',vcS,↓vcQ,simprocAttr]
   exact ⟨by simp,hK _ (by simp) (.mk (k0.put t.no _) pa (t.put rfl rfl rfl rfl rfl))⟩
def Eo:RFn:=⟨3,32,.cJ (.take (MV 6 0) [] (.take (MV 7 0) [] (.take (MV 8 1) [] (.take (OP 9 (.mm true (.t 8) (.c (.int .i64 0)))) [] (.take (MV 10 0) [] (.take (OP 11 (.aF (.t 10))) [] (.take (FA 12 0 11) [] (.take (FA 13 0 12) [] (.take (LD 14 13) [] (.take (BI 15 .sub 14 1) [] (.take (OP 16 (.mm false (.t 9) (.t 15))) [] (.take (MV 17 2) [] (.take (OP 18 (.mm true (.t 17) (.c (.int .i64 0)))) [] (.take (MV 19 0) [] (.take (OP 20 (.aF (.t 19))) [] (.take (FA 21 0 20) [] (.take (FA 22 1 21) [] (.take (LD 23 22) [] (.take (BI 24 .sub 23 1) [] (.take (OP 25 (.mm false (.t 18) (.t 24))) [] (.take (OP 26 (.aF (.t 6))) [] (.take (FA 27 0 26) [] (.take (FA 28 3 27) [] (.op (SA 1 28 16) (.take (OP 29 (.aF (.t 7))) [] (.take (FA 30 0 29) [] (.take (FA 31 4 30) [] (.op (SA 1 31 25) .done)))))))))))))))))))))))))))) 0 [],[]⟩
theorem NT:aK PG.P (aA PG.P 100 Eo) 100=some Eo:=by kernel_rfl
def zY:RC:=(.seq (.seq (.cJ (.take (MV 29 0) [] (.take (OP 30 (.aF (.t 29))) [] (.take (FA 31 0 30) [] (.take (FA 32 4 31) [] (.take (LD 33 32) [] (.take (MV 34 0) [] (.take (OP 35 (.aF (.t 34))) [] (.take (FA 36 0 35) [] (.take (FA 37 1 36) [] (.take (LD 38 37) [] (.take (BI 39 .sub 38 1) [] (.take (BT 40 .lss 33 39) [] (.take (MV 41 40) [] (.take (MG 42 0 41 true) [] (.take (OG 43 (.aF (.t 42)) 41 true) [] (.take (FG 44 0 43 41 true) [] (.take (FG 45 4 44 41 true) [] (.take (LG 46 45 41 true) [] (.take (MG 47 0 41 true) [] (.take (OG 48 (.aF (.t 47)) 41 true) [] (.take (FG 49 0 48 41 true) [] (.take (FG 50 9 49 41 true) [] (.take (LG 51 50 41 true) [] (.take (OG 52 (.len (.t 51)) 41 true) [] (.take (OG 53 (.bin .lss (.t 46) (.t 52)) 41 true) [] (.take (OP 54 (.pick (.t 41) (.t 53) (.c (.bool false)))) [] (.take (MV 55 54) [] (.take (MG 56 0 55 true) [] (.take (OG 57 (.aF (.t 56)) 55 true) [] (.take (FG 58 0 57 55 true) [] (.take (FG 59 9 58 55 true) [] (.take (LG 60 59 55 true) [] (.take (MG 61 0 55 true) [] (.take (OG 62 (.aF (.t 61)) 55 true) [] (.take (FG 63 0 62 55 true) [] (.take (FG 64 4 63 55 true) [] (.take (LG 65 64 55 true) [] (.take (OG 66 (.aT 1 (.t 60) (.t 65)) 55 true) [] (.take (LG 67 66 55 true) [] (.take (OG 68 (.un .not (.t 67)) 55 true) [] (.take (OP 69 (.pick (.t 55) (.t 68) (.c (.bool false)))) [] .done))))))))))))))))))))))))))))))))))))))))) 0 [0,69]) (.cond (.t 69) .skip (.ext 1))) (.seq (.blk 2 .skip) (.reg [MV 70 0,OP 71 (.aF (.t 70)),FA 72 0 71,FA 73 4 72,LD 74 73,BI 75 .add 74 1,OP 76 (.aF (.t 70)),FA 77 0 76,FA 78 4 77,SA 1 78 75] 0 [0])))
def y7:RFn:=⟨2,111,.seq (SR [MV 4 1] [0,4] (.blk 0 (SR [OP 6 (.bin .eql (.t 4) (.c (.int .u8 8))),MV 5 6] [0,4,5] (.cond (.t 5) (.reg [MV 7 0,MV 8 0,OP 9 (.aF (.t 8)),FA 10 0 9,FA 11 4 10,LD 12 11,BI 13 .sub 12 1,OP 14 (.mm true (.t 13) (.c (.int .i64 0))),OP 15 (.aF (.t 7)),FA 16 0 15,FA 17 4 16,SA 1 17 14] 0 [0]) (SR [OP 19 (.bin .eql (.t 4) (.c (.int .u8 9))),MV 18 19] [0,4,18] (.cond (.t 18) (.seq (SR [MV 20 0,OP 21 (.aF (.t 20)),FA 22 0 21,FA 23 4 22,LD 24 23,BI 25 .add 24 1,OP 26 (.aF (.t 20)),FA 27 0 26,FA 28 4 27,SA 1 28 25] [0] (.blk 1 (.loop zY))) (.cJ (.take (MV 79 0) [] (.take (MV 80 0) [] (.take (OP 81 (.aF (.t 80))) [] (.take (FA 82 0 81) [] (.take (FA 83 4 82) [] (.take (LD 84 83) [] (.take (MV 85 0) [] (.take (OP 86 (.aF (.t 85))) [] (.take (FA 87 0 86) [] (.take (FA 88 1 87) [] (.take (LD 89 88) [] (.take (BI 90 .sub 89 1) [] (.take (OP 91 (.mm false (.t 84) (.t 90))) [] (.take (OP 92 (.aF (.t 79))) [] (.take (FA 93 0 92) [] (.take (FA 94 4 93) [] (.op (SA 1 94 91) .done))))))))))))))))) 0 [0])) (.seq (SR [OP 96 (.bin .eql (.t 4) (.c (.int .u8 10))),MV 95 96] [0,4,95] (.cond (.t 95) .skip (SR [OP 97 (.bin .eql (.t 4) (.c (.int .u8 11))),MV 95 97] [0,4,95] (.cond (.t 95) .skip (.reg [OP 98 (.bin .eql (.t 4) (.c (.int .u8 12))),MV 95 98] 0 [0,4,95]))))) (.cond (.t 95) (.reg [MV 99 0,OP 100 (.call 97 [.t 99])] 0 [0]) (SR [OP 102 (.bin .eql (.t 4) (.c (.int .u8 13))),MV 101 102] [0,101] (.cond (.t 101) (.reg [MV 103 0,OP 104 (.aF (.t 103)),FA 105 0 104,FA 106 4 105,NP (.store 1 (.t 106) (.c (.int .i64 0)))] 0 [0]) .ret)))))))))) (.reg [MV 107 0,OP 108 (.aF (.t 107)),FA 109 0 108,FA 110 5 109,NP (.store 1 (.t 110) (.c (.bool false)))] 0 []),[]⟩
theorem JY:aK PG.P (aA PG.P 63 y7) 63=some y7:=by kernel_rfl
def toP (s:Sc)(y x:Int):Sc:={ s with y:=min y.toNat (s.rows-1),x:=min x.toNat (s.aa-1)}
theorem Z9 {y x:Int}(hr:1<=s.rows/\s.rows<=1000)(hc:1<=s.aa/\s.aa<=1000)(hb:T[o]?=some (some (.box (aN s q tq od m pr d1 d2 d3))))
  (kk:K (.tup []) (T.set o (some (.box (aN (toP s y x) q tq od m pr d1 d2 d3))))):aj PG 100 [.ptr o 0 0,.int .i64 y,.int .i64 x] T K:=by
 unfold aN at hb
 refine aj.aE FOk.nil NT (by simp[Eo]) ?_
 unfold Eo
 dsimp only
 have w1:IntKind.i64.wrap ((s.rows:Int)-1)=((s.rows-1:Nat):Int):=by rw[aO (by omega) (by omega)];omega
 have w2:IntKind.i64.wrap ((s.aa:Int)-1)=((s.aa-1:Nat):Int):=by rw[aO (by omega) (by omega)];omega
 have e1:min (max y 0) ((s.rows-1:Nat):Int)=((min y.toNat (s.rows-1):Nat):Int):=by omega
 have e2:min (max x 0) ((s.aa-1:Nat):Int)=((min x.toNat (s.aa-1):Nat):Int):=by omega
 simp -implicitDefEqProofs -dsimp only[ah,ai hb,w1,w2,e1,e2,List.set_set,vcS,↓vcQ,simprocAttr]
 repeat' (first | exact kk | (simp;done) | apply And.intro)
theorem uB {y x:Int}(hr:1<=s.rows/\s.rows<=1000)(hc:1<=s.aa/\s.aa<=1000)(h:aB T0 T o s p)(hK:∀T',T.length<=T'.length->aB T0 T' o (toP s y x) p->K (.tup []) T') :
  aj PG 100 [.ptr o 0 0,.int .i64 y,.int .i64 x] T K:=by
 obtain ⟨k0,q,tq,od,m,pr,d1,d2,d3,pa,t⟩:=h
 exact Z9 hr hc t.box (hK _ (by simp) (.mk (k0.put t.no _) pa (t.put rfl rfl rfl rfl rfl)))
theorem wK {t:List Bool}{c:Nat}:∀(f x:Nat),c-x<=f->qm t c f x=qm t c (c-x) x
 | 0,x,h=>by rw[Nat.le_zero.1 h]
 | f+1,x,h=>by
  rcases Decidable.em (x+1<c/\t.getD x false=false) with hx | hx
  ·have e:c-x=(c-(x+1))+1:=by omega
   rw[e]
   simp only[qm,if_pos hx]
   rw[wK f (x+1) (by omega)]
  ·rcases Nat.eq_zero_or_pos (c-x) with h0 | h0
   ·rw[h0];simp only[qm,if_neg hx]
   ·obtain ⟨k,hk⟩:∃k,c-x=k+1:=⟨c-x-1,by omega⟩
    rw[hk];simp only[qm,if_neg hx]
theorem LY {t:List Bool}{c x:Nat}(h:x+1<c)(ht:t.getD x false=false):qm t c c x=qm t c c (x+1):=by
 rw[wK c x (by omega),wK c (x+1) (by omega)]
 have e:c-x=(c-(x+1))+1:=by omega
 rw[e]
 simp only[qm,if_pos (show x+1<c/\t.getD x false=false from ⟨h,ht⟩)]
theorem rF {t:List Bool}{c x:Nat}(h:¬(x+1<c/\t.getD x false=false)):qm t c c x=x:=by
 cases c with
 | zero=>rfl
 | succ c=>simp only[qm,if_neg h]
theorem aaE {b:Int}(ok:aR s)(h:aB T0 T o s p)(hK:∀T',T.length<=T'.length->aB T0 T' o (xD s b) p->K (.tup []) T'):aj PG 63 [.ptr o 0 0,.int .u8 b] T K:=by
 obtain ⟨k0,q,tq,od,m,pr,d1,d2,d3,pa,t⟩:=id h
 have hb:=t.box
 unfold aN at hb
 have hr:=ok.g.r
 have hc:=ok.g.c
 have hy:=ok.y
 have hx:=ok.x
 refine aj.aE FOk.nil JY (by simp[y7]) ?_
 unfold y7
 dsimp only
 unfold xD at hK
 rcases Decidable.em (b=8) with b1 | b1
 ·rw[if_pos b1] at hK
  have w1:max (IntKind.i64.wrap ((s.x:Int)-1)) 0=((s.x-1:Nat):Int):=by rw[aO (by omega) (by omega)];omega
  simp -implicitDefEqProofs -dsimp only[ah,ai hb,eq_true b1,w1,List.set_set,vcS,↓vcQ,simprocAttr]
  exact ⟨by simp,hK _ (by simp) (.mk (k0.put t.no _) pa (t.put rfl rfl rfl rfl rfl))⟩
 rw[if_neg b1] at hK
 rcases Decidable.em (b=9) with b2 | b2
 ·rw[if_pos b2] at hK
  have w1:IntKind.i64.wrap ((s.x:Int)+1)=((s.x+1:Nat):Int):=by rw[aO (by omega) (by omega)];omega
  have w2:IntKind.i64.wrap ((s.aa:Int)-1)=((s.aa-1:Nat):Int):=by rw[aO (by omega) (by omega)];omega
  simp -implicitDefEqProofs -dsimp only[ah,ai hb,eq_false b1,eq_true b2,w1,w2,List.set_set,vcS,↓vcQ,simprocAttr]
  refine bk.inv FOk.nil (S:=fun i:Nat=>⟨[(0,.ptr o 0 0)],T.set o (some (.box (aN { s with x:=i} q tq od m pr d1 d2 d3)))⟩)
   (I:=fun i=>i<=s.aa/\qm s.aP s.aa s.aa i=qm s.aP s.aa s.aa (s.x+1)) (μ:=fun i=>s.aa-i) (s.x+1) ⟨by omega,rfl⟩ ?_ ?_
  ·simp -implicitDefEqProofs -dsimp only[an,vcS,↓vcQ,simprocAttr]
   exact aH _
  ·intro i ⟨hi,hn⟩
   unfold zY
   have ti:=t.put (s':={ s with x:=i}) (l:=aN { s with x:=i} q tq od m pr d1 d2 d3) rfl rfl rfl rfl rfl
   have hbi:=ti.box
   have hti:=ti.aP
   unfold aN at hbi hti ⊢
   dsimp only at hbi hti ⊢
   have i0:(0:Int)<=i:=by omega
   have fin:i<=s.aa->qm s.aP s.aa s.aa i=i->∀T',T'=((T.set o (some (.box (aN { s with x:=i} q tq od m pr d1 d2 d3)))).set o (some (.box (aN { s with x:=min i (s.aa-1)} q tq od m pr d1 d2 d3)))).set o (some (.box (aN { s with x:=min i (s.aa-1),wrap:=false} q tq od m pr d1 d2 d3)))->K (.tup []) T':=fun _ e T' eT=>by
    subst eT
    refine hK _ (by simp) ?_
    rw[<-hn,e]
    rw[List.set_set,List.set_set]
    exact .mk (k0.put t.no _) pa (t.put rfl rfl rfl rfl rfl)
   have m1:min (i:Int) ((s.aa-1:Nat):Int)=((min i (s.aa-1):Nat):Int):=by omega
   have w3:IntKind.i64.wrap ((i:Int)+1)=((i+1:Nat):Int):=by rw[aO (by omega) (by omega)];omega
   rcases Decidable.em (i+1<s.aa) with h1 | h1
   ·have h1':(i:Int)<((s.aa-1:Nat):Int):=by omega
    have h2':(i:Int)<(s.aP.length:Int):=by rw[ok.aP];omega
    have hg:=fl (L:=s.aP) (i:=i) (by rw[ok.aP];omega)
    cases h3:s.aP.getD i false with
    | true=>
     rw[h3] at hg
     simp -implicitDefEqProofs -dsimp only[ah,ai hbi,ai hti,i0,w2,h1',h2',hg,aY,m1,Nat.zero_add,vcS,↓vcQ,simprocAttr]
     exact ⟨by simp,fin hi (rF (by simp only[h3];simp)) _ rfl⟩
    | false=>
     rw[h3] at hg
     simp -implicitDefEqProofs -dsimp only[ah,ai hbi,ai hti,i0,w2,w3,h1',h2',hg,aY,m1,Nat.zero_add,an,List.set_set,vcS,↓vcQ,simprocAttr]
     exact ⟨i+1,aH _,⟨by omega,by rw[<-hn];exact (LY h1 h3).symm⟩,by omega⟩
   ·have h1':¬(i:Int)<((s.aa-1:Nat):Int):=by omega
    simp -implicitDefEqProofs -dsimp only[ah,ai hbi,ai hti,i0,w2,h1',m1,Nat.zero_add,vcS,↓vcQ,simprocAttr]
    exact ⟨by simp,fin hi (rF (by omega)) _ rfl⟩
 rw[if_neg b2] at hK
 rcases Decidable.em (b=10\/b=11\/b=12) with b3 | b3
 ·rw[if_pos b3] at hK
  have hw:=(iy ok).2.2.2.2.1
  have ew:{ cH s with wrap:=false}=cH s:=by
   generalize cH s=n at hw ⊢
   cases n
   simp only at hw
   subst hw
   rfl
  rcases b3 with rfl | rfl | rfl
  all_goals
   simp -implicitDefEqProofs -dsimp only[ah,vcS,↓vcQ,simprocAttr]
   refine uC ok h fun T' l t'=>?_
   obtain ⟨k1,q',tq',od',m',pr',e1,e2,e3,pa',t2⟩:=t'
   have hb2:=t2.box
   unfold aN at hb2
   simp -implicitDefEqProofs -dsimp only[ah,ai hb2,vcS,↓vcQ,simprocAttr]
   refine ⟨by simpa using l,hK _ (by simpa using l) ?_⟩
   rw[<-ew]
   exact .mk (k1.put t2.no _) pa' (t2.put rfl rfl rfl rfl rfl)
 rw[if_neg b3] at hK
 have b31:¬b=10:=by omega
 have b32:¬b=11:=by omega
 have b33:¬b=12:=by omega
 rcases Decidable.em (b=13) with b4 | b4
 ·rw[if_pos b4] at hK
  simp -implicitDefEqProofs -dsimp only[ah,ai hb,eq_false b1,eq_false b2,eq_false b31,eq_false b32,eq_false b33,eq_true b4,List.set_set,vcS,↓vcQ,simprocAttr]
  exact ⟨by simp,hK _ (by simp) (.mk (k0.put t.no _) pa (t.put rfl rfl rfl rfl rfl))⟩
 ·rw[if_neg b4] at hK
  simp -implicitDefEqProofs -dsimp only[ah,ai hb,eq_false b1,eq_false b2,eq_false b31,eq_false b32,eq_false b33,eq_false b4,List.set_set,vcS,↓vcQ,simprocAttr]
  exact hK _ (Nat.le_refl _) h
end
end Go.Proofs.YtjmnbpilnneonaaGreatDoor
