/- Texts R13 in one. -/
import Derived.Test.YtjmnbpilnneonaaGreatDoorNF
set_option linter.unusedVariables false
set_option linter.unusedSimpArgs false
set_option maxRecDepth 10000
namespace Go.Proofs.YtjmnbpilnneonaaGreatDoor
open Go.RowKit
noncomputable def uK:RC:=(.seq (SR [MV 52 10,MV 53 8,BT 54 .lss 52 53] [3,6,8,10,54] (.cond (.t 54) .skip (.ext 1))) (.seq (.blk 2 (.cJ (.take (FA 57 2 3) [] (.take (LD 58 57) [] (.take (MV 59 10) [] (.op (OP 60 (.call 40 [])) (.take (OP 61 (.aT 3 (.t 58) (.t 59))) [] (.op (SA 3 61 60) .done)))))) 0 [3,6,8,10])) (.reg [MV 55 10,BI 56 .add 55 1,MV 10 56] 0 [3,6,8,10])))
noncomputable def iV:RC:=(SR [FA 46 2 3,LD 47 46,OP 48 (.call 79 [.t 47]),FA 49 2 3,SA 1 49 48,FA 50 5 3,NP (.store 1 (.t 50) (.c (.bool false)))] [3,6,7,8] (.seq (SR [MV 51 7,MV 10 51] [3,6,8,10] (.blk 1 (.loop uK))) (SR [FA 62 2 3,LD 63 62,FA 64 1 3,LD 65 64,FA 66 3 3,LD 67 66,OP 68 (.call 53 [.t 63,.t 65,.t 67]),FA 69 2 3,SA 1 69 68] [3,6] (SR [LT 70 24 3,SA 24 6 70] [6] .ret))))
theorem fE (E:Prg)(F:dW)(n:Nat)(Q:Exit->St->Prop)(st:St):RC.wp E F n iV Q st=WpH E F n iV Q st:=ak _
noncomputable def dO:RFn:=⟨3,71,(SR [OP 3 (.box 24 (.t 0)),OP 6 (.alloc ZS)] [1,2,3,6] (.seq (SR [MV 11 2,BI 12 .gtr 11 2] [1,2,3,6,12] (.cond (.t 12) (SR [FA 13 5 3,NP (.store 1 (.t 13) (.c (.bool false)))] [3,6] (SR [LT 14 24 3,SA 24 6 14] [6] .ret)) .skip)) (.seq (.cJ (.take (FA 15 2 3) [] (.take (LD 16 15) [] (.take (OP 17 (.len (.t 16))) [] (.take (OP 7 (.mov (.c (.int .i64 0)))) [] (.take (MV 8 17) [] .done))))) 0 [1,2,3,6,7,8]) (.seq (SR [MV 18 1] [2,3,6,7,8,18] (.cond (.t 18) (.cJ (.take (FA 19 3 3) [] (.take (LD 20 19) [] (.take (FA 21 1 3) [] (.take (LD 22 21) [] (.take (BT 23 .mul 20 22) [] (.take (FA 24 3 3) [] (.take (LD 25 24) [] (.take (BI 26 .add 25 1) [] (.take (FA 27 1 3) [] (.take (LD 28 27) [] (.take (BT 29 .mul 26 28) [] (.take (MV 7 23) [] (.take (MV 8 29) [] .done))))))))))))) 0 [2,3,6,7,8]) .skip)) (SR [FA 30 3 3,LD 31 30,FA 32 1 3,LD 33 32,BT 34 .mul 31 33,FA 35 4 3,LD 36 35,BT 37 .add 34 36,MV 9 37] [2,3,6,7,8,9] (.seq (SR [MV 38 2] [3,6,7,8,9,38] (.blk 0 (SR [BI 40 .eql 38 0,MV 39 40] [3,6,7,8,9,38,39] (.cond (.t 39) (.reg [MV 41 9,MV 7 41] 0 [3,6,7,8]) (SR [BI 43 .eql 38 1,MV 42 43] [3,6,7,8,9,42] (.cond (.t 42) (.reg [MV 44 9,BI 45 .add 44 1,MV 8 45] 0 [3,6,7,8]) .skip)))))) iV)))))),[.c 6 true 24]⟩
theorem gx:aK PG.P (aA PG.P 118 dO) 118=some dO:=by kernel_rfl
theorem Qh:av PG 40 [] fun n r os=>r=.agg [.int .i32 32,.int .u16 0,.int .u8 0]/\os=[]:=
 av.GX (fun n T=>by simp -implicitDefEqProofs -dsimp only[vcS,↓vcQ,simprocAttr]) fun T=>fc fun T' k=>rfl
def qV:List DV->Option aS
 | []=>some ⟨True,fun n=>(.agg [.int .i32 32,.int .u16 0,.int .u8 0],[])⟩
 | _=>none
theorem eC:qV []=some ⟨True,fun n=>(.agg [.int .i32 32,.int .u16 0,.int .u8 0],[])⟩:=ak _
theorem MO (args:List DV)(s:aS)(hs:qV args=some s)(hp:s.pre):av PG 40 args fun n r os=>r=(s.res n).1/\os=(s.res n).2:=by
 unfold qV at hs
 split at hs
 ·obtain rfl:=sj hs
  exact Qh
 ·cases hs
def Vy:FL:=[(40,.o qV)]
theorem ny:FOk PG (tab Vy):=FOk.cons FOk.nil MO
theorem iM (args:List DV):tab Vy 40 args=(qV args).map .o:=ak _
theorem iL (args:List DV):tab Vy 79 args=none:=ak _
theorem iK (args:List DV):tab Vy 53 args=none:=ak _
theorem jW {T:ay}{s:Sc}{p:Pa}{z1 z2 z3:Nat}{k1 k2 k3:SK}{m pr:Int}{d1 d2 d3:DV}{a b:Nat}{K:DV->ay->Prop}{Q:Exit->St->Prop}
  (ok:aR s) (sv:ScV s p z1 z2 z3 m pr d1 d2 d3) (hab:a<=b) (hbl:b<=s.cells.length) (h:∀T' v',ax T T' []->aJ { s with wrap:=false,cells:=cO (gr s.cells a b) s.aa s.y} p v'->K v' T')
  (hQ:∀(l:List DV) T',l.length=24->T'[T.length+1]?=some (some (.box l))->(T.length<=T'.length/\∃d' T'',eK ⟨[(0,.agg l)],T'⟩ ⟨[(0,d')],T''⟩/\K d' T'')->Q .ret ⟨[(6,.ptr (T.length+1) 0 0)],T'⟩) {X:List (Nat × DV)} (hX:X=[]\/∃d,X=[(42,d)]) {aI bI:Int} (haI:aI=a) (hbI:bI=b) :
  WpH PG (tab Vy) 71 iV Q ⟨(3,.ptr T.length 0 0)::(6,.ptr (T.length+1) 0 0)::(7,.int .i64 aI)::(8,.int .i64 bI)::X,T++ [some (.box (scD s z1 z2 z3 k1 k2 k3 m pr d1 d2 d3)),some (.box lp)]⟩:=by
 subst haI hbI
 obtain ⟨o1,o2,o3⟩:=sv.pa.one
 have hr:=ok.g.r
 have hc:=ok.g.c
 have hy:=ok.y
 have Aw:=ok.g.lim
 have hne:T.length+1≠T.length:=by omega
 have hM:(gr s.cells a b).length=s.cells.length:=gq hab hbl
 have hat:=fun {i:Nat}=>jh (L:=s.cells) (a:=a) (b:=b) (i:=i) hab hbl
 obtain ⟨M,eM⟩:∃M,M=gr s.cells a b:=⟨_,rfl⟩
 rw[<-eM] at hM hat h
 have gM:bU M s.rows s.aa:=ok.g.ej hM
 have lM:=fH gM hy
 unfold scD lp
 rcases hX with rfl | ⟨dx,rfl⟩
 all_goals
  unfold WpH iV
  simp -implicitDefEqProofs -dsimp only[ah,iL,iK,iM,eC,o1,o2,o3,vcS,↓vcQ,simprocAttr]
  refine oK sv.z1 Aw.2 Aw.1 fun T1 q hq hA g1=>?_
  have hb1:=g1.at (aZ T [_] (some (Ob.box _))) (by simp)
  have hz1:=g1.at (bl T [_,some (Ob.box _)] 1) (by simp)
  simp only[List.length_append,List.length_cons,List.length_nil] at hq
  have hqb:q≠T.length:=by omega
  have hbq:T.length≠q:=by omega
  simp -implicitDefEqProofs -dsimp only[ah,iL,iK,iM,eC,ai hb1,o1,o2,o3,List.set_set,vcS,↓vcQ,simprocAttr]
  have kk:ax T T1 []:=(ax.app T _ []).new g1 (by simp)
  have hbx:=bZ hb1 (some (Ob.box [.int .i64 s.rows,.int .i64 s.aa,.own q 0 s.cells.length,.int .i64 s.y,.int .i64 s.x,.bool false,.int .u16 s.attr,.int .i64 s.top,.int .i64 s.bot,.sl z2 (bg s.aP) k2,.int .i64 s.sy,.int .i64 s.sx,.int .u16 s.eg,.bool s.auto,.bool s.shown,.bool s.alt,.sl z3 (aq s.other) k3,.int .i64 s.oy,.int .i64 s.ox,.int .i64 m,.int .u8 pr,d1,d2,d3]))
  have hzx:=bn hz1 (some (Ob.box [.int .i64 s.rows,.int .i64 s.aa,.own q 0 s.cells.length,.int .i64 s.y,.int .i64 s.x,.bool false,.int .u16 s.attr,.int .i64 s.top,.int .i64 s.bot,.sl z2 (bg s.aP) k2,.int .i64 s.sy,.int .i64 s.sx,.int .u16 s.eg,.bool s.auto,.bool s.shown,.bool s.alt,.sl z3 (aq s.other) k3,.int .i64 s.oy,.int .i64 s.ox,.int .i64 m,.int .u8 pr,d1,d2,d3])) hne
  have hAx:=bn hA (some (Ob.box [.int .i64 s.rows,.int .i64 s.aa,.own q 0 s.cells.length,.int .i64 s.y,.int .i64 s.x,.bool false,.int .u16 s.attr,.int .i64 s.top,.int .i64 s.bot,.sl z2 (bg s.aP) k2,.int .i64 s.sy,.int .i64 s.sx,.int .u16 s.eg,.bool s.auto,.bool s.shown,.bool s.alt,.sl z3 (aq s.other) k3,.int .i64 s.oy,.int .i64 s.ox,.int .i64 m,.int .u8 pr,d1,d2,d3])) hqb
  refine bk.inv ny (S:=fun σ:Nat × ay=>⟨[(3,.ptr T.length 0 0),(6,.ptr (T.length+1) 0 0),(8,.int .i64 b),(10,.int .i64 σ.1)],σ.2⟩)
   (I:=fun σ=>a<=σ.1/\σ.1<=b/\σ.2[T.length]?=some (some (.box [.int .i64 s.rows,.int .i64 s.aa,.own q 0 s.cells.length,.int .i64 s.y,.int .i64 s.x,.bool false,.int .u16 s.attr,.int .i64 s.top,.int .i64 s.bot,.sl z2 (bg s.aP) k2,.int .i64 s.sy,.int .i64 s.sx,.int .u16 s.eg,.bool s.auto,.bool s.shown,.bool s.alt,.sl z3 (aq s.other) k3,.int .i64 s.oy,.int .i64 s.ox,.int .i64 m,.int .u8 pr,d1,d2,d3]))/\σ.2[T.length+1]?=some (some (.box lp))/\σ.2[q]?=some (some (.arr 3 (aq (e9 s.cells M a σ.1))))/\ax T σ.2 [])
   (μ:=fun σ=>b-σ.1) (a,_) ⟨Nat.le_refl _,hab,hbx,hzx,by rw[kS];exact hAx,kk.put (Dd.ge (Nat.le_refl _)) _⟩ ?_ ?_
  ·simp -implicitDefEqProofs -dsimp only[an,vcS,↓vcQ,simprocAttr]
  ·intro ⟨i,A⟩ ⟨i1,i2,i3,i4,i5,i6⟩
   dsimp only at i1 i2 i3 i4 i5 i6 ⊢
   unfold uK
   rcases Nat.lt_or_ge i b with hi | hi
   ·have hii:(i:Int)<b:=by omega
    have wx:IntKind.i64.wrap ((i:Int)+1)=((i+1:Nat):Int):=by rw[aO (by omega) (by omega)];omega
    have lm:=gk (L:=s.cells) (M:=M) (a:=a) (b:=i) (by omega) (by omega) hM
    have jf:=hat (i:=i)
    rw[if_pos (by omega)] at jf
    have b0:(0:Int)<=(i:Int):=by omega
    have b1:(i:Int)<s.cells.length:=by omega
    have hg:=bf (L:=e9 s.cells M a i) (i:=i) (by omega)
    have bY:=bM (e9 s.cells M a i) i aM
    rw[fG (by omega) (by omega) hM jf.symm] at bY
    change (aq (e9 s.cells M a i)).set i [.int .i32 32,.int .u16 0,.int .u8 0]=_ at bY
    simp -implicitDefEqProofs -dsimp only[ah,iL,iK,iM,eC,ai i3,ai i5,hii,wx,b0,b1,hg,bY,Nat.zero_add,an,vcS,↓vcQ,simprocAttr]
    exact ⟨(i+1,_),⟨rfl,aH _⟩,⟨by dsimp only;omega,hi,bn i3 _ hbq,bn i4 _ (by omega),bZ i5 _,i6.put (Dd.ge (by omega)) _⟩,by dsimp only;omega⟩
   ·have hii:¬(i:Int)<b:=by omega
    obtain rfl:i=b:=by omega
    rw[kU hab hbl hM fun j hj=>by rw[hat,if_neg hj]] at i5
    simp -implicitDefEqProofs -dsimp only[ah,iL,iK,iM,eC,ai i3,hii,vcS,↓vcQ,simprocAttr]
    refine zv (L:=M) i5 hM.symm gM hy fun T3 pp hpp hA3 g3=>?_
    have hb3:=g3.at i3 (by simp)
    have hz3:=g3.at i4 (by simp)
    unfold lp at hz3
    simp -implicitDefEqProofs -dsimp only[ah,iL,iK,iM,eC,ai hb3,ai hz3,fun y=>ai (bn hz3 y hne),o1,o2,o3,List.set_set,vcS,↓vcQ,simprocAttr]
    have l6:=i6.1
    have lq:=eI i4
    have kf:=fun x y=>((i6.new g3 (by simp)).put (o:=T.length) (Dd.ge (Nat.le_refl _)) x).put (o:=T.length+1) (Dd.ge (by omega)) y
    have hAf:=fun x y=>bn (bn hA3 (some (Ob.box x)) (show pp≠T.length by omega)) (some (Ob.box y)) (show pp≠T.length+1 by omega)
    exact hQ _ _ rfl (bZ (bn hz3 _ hne) _) (Dr (s:={ s with wrap:=false,cells:=cO M s.aa s.y}) (hAf _ _) (by rw[lM,hM]) (kf _ _) (by omega) ⟨rfl,sv.z2,sv.z3,sv.pa⟩ h)
set_option maxHeartbeats 2000000 in
theorem FR {T:ay}{s:Sc}{p:Pa}{v:DV}{row:Bool}{k:Int}{K:DV->ay->Prop}(ok:aR s)(hk:0<=k)(hv:aJ s p v)(h:∀T' v',ax T T' []->aJ (fW s row k) p v'->K v' T'):aj PG 118 [v,.bool row,.int .i64 k] T K:=by
 obtain ⟨z1,z2,z3,k1,k2,k3,m,pr,d1,d2,d3,sv,rfl⟩:=hv
 obtain ⟨o1,o2,o3⟩:=sv.pa.one
 have hr:=ok.g.r
 have hc:=ok.g.c
 have hy:=ok.y
 have hx:=ok.x
 have Aw:=ok.g.lim
 have hgl:s.cells.length=s.rows*s.aa:=ok.g.len
 have hin:=Vg ok
 have fin:∀(l:List DV) (T':ay),l.length=24->T'[T.length+1]?=some (some (.box l))->(T.length<=T'.length/\∃d' T'',eK ⟨[(0,.agg l)],T'⟩ ⟨[(0,d')],T''⟩/\K d' T'')->j9 [Res.c 6 true 24] (fun d T'=>T.length<=T'.length/\∃d' T'',eK ⟨[(0,d)],T'⟩ ⟨[(0,d')],T''⟩/\K d' T'') .ret ⟨[(6,.ptr (T.length+1) 0 0)],T'⟩:=fun l T' h24 hl hh=>by
  simp -implicitDefEqProofs -dsimp only[ah,iL,iK,iM,eC,ai hl,vcS,↓vcQ,simprocAttr]
  rw[List.take_of_length_le (by omega)]
  exact ⟨by omega,hh⟩
 rcases Decidable.em (2<k) with kk2 | kk2
 ·have e:fW s row k={ s with wrap:=false}:=by unfold fW;rw[if_neg (by omega)]
  rw[e] at h
  unfold scD
  refine aj.aE ny gx (by simp[dO]) ?_
  unfold dO
  dsimp only
  simp -implicitDefEqProofs -dsimp only[ah,iL,iK,iM,eC,o1,o2,o3,kk2,vcS,↓vcQ,simprocAttr]
  exact h _ _ (ax.app _ _ _) (aJ.of (s:={ s with wrap:=false}) ⟨sv.z1,sv.z2,sv.z3,sv.pa⟩)
 ·rw[<-NN ok row (k:=k) (by omega)] at h
  obtain ⟨ab1,ab2⟩:=aaj ok row k
  obtain ⟨R,eR⟩:∃R,R=s.y*s.aa:=⟨_,rfl⟩
  obtain ⟨R2,eR2⟩:∃R2,R2=(s.y+1)*s.aa:=⟨_,rfl⟩
  have hm:s.rows*s.aa<=1000*1000:=Nat.mul_le_mul hr.2 hc.2
  have wR:IntKind.i64.wrap ((s.y:Int)*s.aa)=(R:Int):=by
   have:(s.y:Int)*s.aa=(R:Int):=by rw[eR];simp
   rw[this];exact aO (by omega) (by omega)
  have wy:IntKind.i64.wrap ((s.y:Int)+1)=((s.y+1:Nat):Int):=by rw[aO (by omega) (by omega)];omega
  have wR2:IntKind.i64.wrap (((s.y+1:Nat):Int)*s.aa)=(R2:Int):=by
   have:((s.y+1:Nat):Int)*s.aa=(R2:Int):=by rw[eR2];simp
   rw[this];exact aO (by omega) (by omega)
  have wS:IntKind.i64.wrap ((R:Int)+s.x)=((R+s.x:Nat):Int):=by rw[aO (by omega) (by omega)];omega
  have wS1:IntKind.i64.wrap (((R+s.x:Nat):Int)+1)=((R+(s.x+1):Nat):Int):=by rw[aO (by omega) (by omega)];omega
  have kc:k=0\/k=1\/k=2:=by omega
  cases row with
  | true=>
   rcases kc with rfl | rfl | rfl
   ·have ea:lY s true 0=R+s.x:=by simp[lY,eR]
    have eb:lJ s true 0=R2:=by simp[lJ,eR,eR2,hgl]
    unfold scD
    refine aj.fq ny gx (by simp[dO]) ?_
    unfold dO
    dsimp only
    simp -implicitDefEqProofs -dsimp only[ah,iL,iK,iM,eC,az,o1,o2,o3,wR,wy,wR2,wS,wS1,↓fE,vcS,↓vcQ,simprocAttr]
    exact jW (s:=s) (z1:=z1) (z2:=z2) (z3:=z3) (k1:=k1) (k2:=k2) (k3:=k3) (m:=m) (pr:=pr) (d1:=d1) (d2:=d2) (d3:=d3) ok sv ab1 ab2 h fin (X:=[]) (.inl rfl) (by rw[ea] <;> rfl) (by rw[eb] <;> rfl)
   ·have ea:lY s true 1=R:=by simp[lY,eR]
    have eb:lJ s true 1=R+s.x+1:=by simp[lJ,eR,eR2,hgl]
    unfold scD
    refine aj.fq ny gx (by simp[dO]) ?_
    unfold dO
    dsimp only
    simp -implicitDefEqProofs -dsimp only[ah,iL,iK,iM,eC,az,o1,o2,o3,wR,wy,wR2,wS,wS1,↓fE,vcS,↓vcQ,simprocAttr]
    exact jW (s:=s) (z1:=z1) (z2:=z2) (z3:=z3) (k1:=k1) (k2:=k2) (k3:=k3) (m:=m) (pr:=pr) (d1:=d1) (d2:=d2) (d3:=d3) ok sv ab1 ab2 h fin (X:=[]) (.inl rfl) (by rw[ea] <;> rfl) (by rw[eb] <;> rfl)
   ·have ea:lY s true 2=R:=by simp[lY,eR]
    have eb:lJ s true 2=R2:=by simp[lJ,eR,eR2,hgl]
    unfold scD
    refine aj.fq ny gx (by simp[dO]) ?_
    unfold dO
    dsimp only
    simp -implicitDefEqProofs -dsimp only[ah,iL,iK,iM,eC,az,o1,o2,o3,wR,wy,wR2,wS,wS1,↓fE,vcS,↓vcQ,simprocAttr]
    exact jW (s:=s) (z1:=z1) (z2:=z2) (z3:=z3) (k1:=k1) (k2:=k2) (k3:=k3) (m:=m) (pr:=pr) (d1:=d1) (d2:=d2) (d3:=d3) ok sv ab1 ab2 h fin (X:=[(42,.bool false)]) (.inr ⟨_,rfl⟩) (by rw[ea] <;> rfl) (by rw[eb] <;> rfl)
  | false=>
   rcases kc with rfl | rfl | rfl
   ·have ea:lY s false 0=R+s.x:=by simp[lY,eR]
    have eb:lJ s false 0=s.cells.length:=by simp[lJ,eR,eR2,hgl]
    unfold scD
    refine aj.fq ny gx (by simp[dO]) ?_
    unfold dO
    dsimp only
    simp -implicitDefEqProofs -dsimp only[ah,iL,iK,iM,eC,az,o1,o2,o3,wR,wy,wR2,wS,wS1,↓fE,vcS,↓vcQ,simprocAttr]
    exact jW (s:=s) (z1:=z1) (z2:=z2) (z3:=z3) (k1:=k1) (k2:=k2) (k3:=k3) (m:=m) (pr:=pr) (d1:=d1) (d2:=d2) (d3:=d3) ok sv ab1 ab2 h fin (X:=[]) (.inl rfl) (by rw[ea] <;> rfl) (by rw[eb] <;> rfl)
   ·have ea:lY s false 1=0:=by simp[lY,eR]
    have eb:lJ s false 1=R+s.x+1:=by simp[lJ,eR,eR2,hgl]
    unfold scD
    refine aj.fq ny gx (by simp[dO]) ?_
    unfold dO
    dsimp only
    simp -implicitDefEqProofs -dsimp only[ah,iL,iK,iM,eC,az,o1,o2,o3,wR,wy,wR2,wS,wS1,↓fE,vcS,↓vcQ,simprocAttr]
    exact jW (s:=s) (z1:=z1) (z2:=z2) (z3:=z3) (k1:=k1) (k2:=k2) (k3:=k3) (m:=m) (pr:=pr) (d1:=d1) (d2:=d2) (d3:=d3) ok sv ab1 ab2 h fin (X:=[]) (.inl rfl) (by rw[ea] <;> rfl) (by rw[eb] <;> rfl)
   ·have ea:lY s false 2=0:=by simp[lY,eR]
    have eb:lJ s false 2=s.cells.length:=by simp[lJ,eR,eR2,hgl]
    unfold scD
    refine aj.fq ny gx (by simp[dO]) ?_
    unfold dO
    dsimp only
    simp -implicitDefEqProofs -dsimp only[ah,iL,iK,iM,eC,az,o1,o2,o3,wR,wy,wR2,wS,wS1,↓fE,vcS,↓vcQ,simprocAttr]
    exact jW (s:=s) (z1:=z1) (z2:=z2) (z3:=z3) (k1:=k1) (k2:=k2) (k3:=k3) (m:=m) (pr:=pr) (d1:=d1) (d2:=d2) (d3:=d3) ok sv ab1 ab2 h fin (X:=[(42,.bool false)]) (.inr ⟨_,rfl⟩) (by rw[ea] <;> rfl) (by rw[eb] <;> rfl)
end Go.Proofs.YtjmnbpilnneonaaGreatDoor
