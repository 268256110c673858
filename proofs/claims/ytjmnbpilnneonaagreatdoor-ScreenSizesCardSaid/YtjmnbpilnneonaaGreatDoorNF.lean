/- Texts R12 in one. -/
import Derived.Test.YtjmnbpilnneonaaGreatDoorNE
import Derived.Test.YtjmnbpilnneonaaGreatDoorN5
set_option linter.unusedVariables false
set_option linter.unusedSimpArgs false
set_option maxRecDepth 10000
namespace Go.Proofs.YtjmnbpilnneonaaGreatDoor
open Go.RowKit
variable {T:ay}{K:DV->ay->Prop}
noncomputable def gJ:RC:=(SR [FA 39 2 2,LD 40 39,OP 41 (.call 79 [.t 40]),FA 42 2 2,SA 1 42 41] [1,2,4,5] (SR [FA 43 3 2,LD 44 43,FA 45 1 2,LD 46 45,BT 47 .mul 44 46,FA 48 4 2,LD 49 48,BT 50 .add 47 49,MV 6 50] [1,2,4,5,6] (SR [FA 51 2 2,LD 52 51,MV 53 6,MV 54 1,FA 55 6 2,LD 56 55,OP 57 (.build [.int .i32 0,.int .u16 0,.int .u8 0] [(0,(1,(.t 54))),(1,(1,(.t 56)))]),OP 58 (.aT 3 (.t 52) (.t 53)),SA 3 58 57] [2,4,5,6] (.seq (SR [MV 59 5,BI 60 .eql 59 2] [2,4,5,6,60] (.cond (.t 60) (SR [FA 61 2 2,LD 62 61,MV 63 6,OP 64 (.aT 3 (.t 62) (.t 63)),FA 65 2 64,NP (.store 1 (.t 65) (.c (.int .u8 1)))] [2,4,5,6] (.reg [FA 66 2 2,LD 67 66,MV 68 6,BI 69 .add 68 1,FA 70 6 2,LD 71 70,OP 72 (.build [.int .i32 0,.int .u16 0,.int .u8 0] [(1,(1,(.t 71))),(2,(1,(.c (.int .u8 2))))]),OP 73 (.aT 3 (.t 67) (.t 69)),SA 3 73 72] 0 [2,4,5])) .skip)) (SR [FA 74 2 2,LD 75 74,FA 76 1 2,LD 77 76,FA 78 3 2,LD 79 78,OP 80 (.call 53 [.t 75,.t 77,.t 79]),FA 81 2 2,SA 1 81 80] [2,4,5] (SR [FA 82 4 2,LD 83 82,MV 84 5,BT 85 .add 83 84,FA 86 4 2,SA 1 86 85] [2,4] (.seq (SR [FA 87 4 2,LD 88 87,FA 89 1 2,LD 90 89,BT 91 .geq 88 90] [2,4,91] (.cond (.t 91) (.reg [FA 92 1 2,LD 93 92,BI 94 .sub 93 1,FA 95 13 2,LD 96 95,FA 97 4 2,SA 1 97 94,FA 98 5 2,SA 1 98 96] 0 [2,4]) .skip)) (SR [LT 99 24 2,SA 24 4 99] [4] .ret))))))))
theorem fD (E:Prg)(F:dW)(n:Nat)(Q:Exit->St->Prop)(st:St):RC.wp E F n gJ Q st=WpH E F n gJ Q st:=ak _
noncomputable def eE:RC:=(.seq (SR [MV 17 5,BI 18 .eql 17 2,MV 19 18,FG 20 4 2 19 true,LG 21 20 19 true,FG 22 1 2 19 true,LG 23 22 19 true,OG 24 (.bin .sub (.t 23) (.c (.int .i64 1))) 19 true,OG 25 (.bin .eql (.t 21) (.t 24)) 19 true,OP 26 (.pick (.t 19) (.t 25) (.c (.bool false)))] [1,2,4,5,26] (.cond (.t 26) (.seq (SR [FA 27 13 2,LD 28 27,OP 29 (.un .not (.t 28)),MV 30 29,FG 31 1 2 30 false,LG 32 31 30 false,OG 33 (.bin .eql (.t 32) (.c (.int .i64 1))) 30 false,OP 34 (.pick (.t 30) (.c (.bool true)) (.t 33))] [1,2,4,5,34] (.cond (.t 34) (SR [LT 35 24 2,SA 24 4 35] [4] .ret) .skip)) (SR [LT 36 24 2,OP 37 (.call 114 [.t 36]),SA 24 2 37] [1,2,4,5] (.reg [FA 38 4 2,NP (.store 1 (.t 38) (.c (.int .i64 0)))] 0 [1,2,4,5]))) .skip)) gJ)
theorem lE (E:Prg)(F:dW)(n:Nat)(Q:Exit->St->Prop)(st:St):RC.wp E F n eE Q st=WpH E F n eE Q st:=ak _
noncomputable def mc:RFn:=⟨2,100,(SR [OP 2 (.box 24 (.t 0)),OP 4 (.alloc ZS)] [1,2,4] (SR [MV 7 1,OP 8 (.call 113 [.t 7]),MV 5 8] [1,2,4,5] (.seq (SR [MV 9 5,BI 10 .eql 9 0] [1,2,4,5,10] (.cond (.t 10) (SR [LT 11 24 2,SA 24 4 11] [4] .ret) .skip)) (.seq (SR [FA 12 5 2,LD 13 12] [1,2,4,5,13] (.cond (.t 13) (SR [LT 14 24 2,OP 15 (.call 114 [.t 14]),SA 24 2 15] [1,2,4,5] (.reg [FA 16 4 2,NP (.store 1 (.t 16) (.c (.int .i64 0)))] 0 [1,2,4,5])) .skip)) eE)))),[.c 4 true 24]⟩
theorem uH:aK PG.P (aA PG.P 71 mc) 71=some mc:=by kernel_rfl
theorem zv {q n:Nat}{L:List Ce}{rows aa y:Nat}(hq:T[q]?=some (some (.arr 3 (aq L))))(hn:n=L.length)(g:bU L rows aa)(hy:y<rows)
  (h:∀T' p,T.length<=p->T'[p]?=some (some (.arr 3 (aq (cO L aa y))))->ax T T' []->K (.own p 0 n) T'):aj PG 53 [.own q 0 n,.int .i64 aa,.int .i64 y] T K:=by
 subst hn
 exact ux hq g hy h
theorem tv {A:ay}{s:Sc}{p:Pa}{z1 z2 z3:Nat}{k1 k2 k3:SK}{m pr:Int}{d1 d2 d3:DV}{r:Int}{w:Nat}{Q:Exit->St->Prop}(kA:ax T A [])(hb:A[T.length]?=some (some (.box (scD s z1 z2 z3 k1 k2 k3 m pr d1 d2 d3))))(hz:A[T.length+1]?=some (some (.box lp)))
  (ok:aR s) (sv:ScV s p z1 z2 z3 m pr d1 d2 d3) (hw:w=1\/w=2) (hf:s.x+w<=s.aa) (h:∀T' v',ax T T' []->aJ (jY s r w) p v'->K v' T')
  (hQ:∀(l:List DV) T',l.length=24->T'[T.length+1]?=some (some (.box l))->(T.length<=T'.length/\∃d' T'',eK ⟨[(0,.agg l)],T'⟩ ⟨[(0,d')],T''⟩/\K d' T'')->Q .ret ⟨[(4,.ptr (T.length+1) 0 0)],T'⟩) {X:List (Nat × DV)} (hX:X=[]\/∃d,X=[(26,d)]) {wI:Int} (hwI:wI=w) :
  WpH PG (tab []) 100 gJ Q ⟨(1,.int .i32 r)::(2,.ptr T.length 0 0)::(4,.ptr (T.length+1) 0 0)::(5,.int .i64 wI)::X,A⟩:=by
 subst hwI
 obtain ⟨o1,o2,o3⟩:=sv.pa.one
 have hr:=ok.g.r
 have hc:=ok.g.c
 have hy:=ok.y
 have hx:=ok.x
 have hin:=Vg ok
 have Aw:=ok.g.lim
 have lz:=eI hz
 have hm:s.rows*s.aa<=1000*1000:=Nat.mul_le_mul hr.2 hc.2
 have hgl:s.cells.length=s.rows*s.aa:=ok.g.len
 have hne:T.length+1≠T.length:=by omega
 have hb0:=hb
 unfold scD at hb
 unfold lp at hz
 have hg:=bf (L:=s.cells) (i:=s.y*s.aa+s.x) (by omega)
 obtain ⟨R,eR⟩:∃R,R=s.y*s.aa:=⟨_,rfl⟩
 have wR:IntKind.i64.wrap ((s.y:Int)*s.aa)=(R:Int):=by
  have:(s.y:Int)*s.aa=(R:Int):=by rw[eR];simp
  rw[this];exact aO (by omega) (by omega)
 have wS:IntKind.i64.wrap ((R:Int)+s.x)=((R+s.x:Nat):Int):=by rw[aO (by omega) (by omega)];omega
 have b0:(0:Int)<=((R+s.x:Nat):Int):=by omega
 have b1:((R+s.x:Nat):Int)<s.cells.length:=by omega
 have w5:IntKind.i64.wrap ((s.aa:Int)-1)=((s.aa-1:Nat):Int):=by rw[aO (by omega) (by omega)];omega
 have gS:=JJ ok r w
 have lS:=kH s r w
 have lM:=fH gS hy
 rw[<-eR] at hg
 rcases hw with rfl | rfl
 ·have w1:IntKind.i64.wrap ((s.x:Int)+1)=((s.x+1:Nat):Int):=by rw[aO (by omega) (by omega)];omega
  have bY:(aq s.cells).set (R+s.x) [.int .i32 r,.int .u16 s.attr,.int .u8 0]=aq (fL s r 1):=by
   unfold fL;rw[if_neg (by decide),<-bM,eR]
  rcases hX with rfl | ⟨dx,rfl⟩
  all_goals
   unfold WpH gJ
   simp -implicitDefEqProofs -dsimp only[ah,ai hb,o1,o2,o3,vcS,↓vcQ,simprocAttr]
   refine oK sv.z1 Aw.2 Aw.1 fun T1 q hq hA g1=>?_
   have hqb:q≠T.length:=by omega
   have hbq:T.length≠q:=by omega
   have hb1:=g1.at hb (by simp)
   simp -implicitDefEqProofs -dsimp only[ah,ai hb1,ai hA,fun x=>ai (bn hA x hqb),fun x y=>ai (bn (bZ hb1 x) y hbq),wR,wS,b0,b1,hg,bY,Nat.zero_add,o1,o2,o3,List.set_set,vcS,↓vcQ,simprocAttr]
   refine zv (L:=fL s r 1) (bZ (bn hA _ hqb) _) lS.symm gS hy fun T3 pp hpp hA3 g3=>?_
   have hb3:=g3.at (bn (bZ hb1 (some (Ob.box _))) (some (Ob.arr 3 (aq (fL s r 1)))) hbq) (by simp)
   have hz3:=g3.at (bn (bn (g1.at hz (by simp)) (some (Ob.box _)) hne) (some (Ob.arr 3 (aq (fL s r 1)))) (show T.length+1≠q by omega)) (by simp)
   have lT1:=g1.1
   simp only[List.length_set] at hpp
   have kk:ax T T3 []:=(((kA.new g1 (by simp)).put (Dd.ge (Nat.le_refl _)) (some (Ob.box _))).put (o:=q) (Dd.ge (by omega)) (some (Ob.arr 3 (aq (fL s r 1))))).new g3 (by simp)
   have kf:=fun x y=>(kk.put (o:=T.length) (Dd.ge (Nat.le_refl _)) x).put (o:=T.length+1) (Dd.ge (by omega)) y
   have hAf:=fun x y=>bn (bn hA3 (some (Ob.box x)) (show pp≠T.length by omega)) (some (Ob.box y)) (show pp≠T.length+1 by omega)
   rcases Nat.lt_or_ge (s.x+1) s.aa with c1 | c1
   ·have c1':¬(s.aa:Int)<=((s.x+1:Nat):Int):=by omega
    have e:jY s r 1={ s with cells:=cO (fL s r 1) s.aa s.y,x:=s.x+1}:=by unfold jY;rw[if_neg (by omega)]
    rw[e] at h
    simp -implicitDefEqProofs -dsimp only[ah,ai hb3,ai hz3,fun y=>ai (bn hz3 y hne),w1,w5,c1',o1,o2,o3,List.set_set,vcS,↓vcQ,simprocAttr]
    exact hQ _ _ rfl (bZ (bn hz3 _ hne) _) (Dr (s:={ s with cells:=cO (fL s r 1) s.aa s.y,x:=s.x+1}) (hAf _ _) (by rw[lM,lS]) (kf _ _) (by omega) ⟨rfl,sv.z2,sv.z3,sv.pa⟩ h)
   ·have c1':(s.aa:Int)<=((s.x+1:Nat):Int):=by omega
    have e:jY s r 1={ s with cells:=cO (fL s r 1) s.aa s.y,x:=s.aa-1,wrap:=s.auto}:=by unfold jY;rw[if_pos (by omega)]
    rw[e] at h
    simp -implicitDefEqProofs -dsimp only[ah,ai hb3,ai hz3,fun y=>ai (bn hz3 y hne),w1,w5,c1',o1,o2,o3,List.set_set,vcS,↓vcQ,simprocAttr]
    exact hQ _ _ rfl (bZ (bn hz3 _ hne) _) (Dr (s:={ s with cells:=cO (fL s r 1) s.aa s.y,x:=s.aa-1,wrap:=s.auto}) (hAf _ _) (by rw[lM,lS]) (kf _ _) (by omega) ⟨rfl,sv.z2,sv.z3,sv.pa⟩ h)
 ·have w1:IntKind.i64.wrap ((s.x:Int)+2)=((s.x+2:Nat):Int):=by rw[aO (by omega) (by omega)];omega
  have w2:IntKind.i64.wrap (((R+s.x:Nat):Int)+1)=((R+(s.x+1):Nat):Int):=by rw[aO (by omega) (by omega)];omega
  have b2:(0:Int)<=((R+(s.x+1):Nat):Int):=by omega
  have b3:((R+(s.x+1):Nat):Int)<s.cells.length:=by omega
  have hs1:=bM s.cells (R+s.x) ⟨r,s.attr,0⟩
  have hs2:=bM (s.cells.set (R+s.x) ⟨r,s.attr,0⟩) (R+s.x) ⟨r,s.attr,1⟩
  have hs3:=bM (s.cells.set (R+s.x) ⟨r,s.attr,1⟩) (R+(s.x+1)) ⟨0,s.attr,2⟩
  have e3:((s.cells.set (R+s.x) ⟨r,s.attr,1⟩).set (R+(s.x+1)) ⟨0,s.attr,2⟩)=fL s r 2:=by
   unfold fL;rw[if_pos rfl,eR];rfl
  rw[e3] at hs3
  have aeh:(aq (s.cells.set (R+s.x) ⟨r,s.attr,0⟩)).set (R+s.x) [.int .i32 r,.int .u16 s.attr,.int .u8 1]=aq (s.cells.set (R+s.x) ⟨r,s.attr,1⟩):=by
   refine hs2.trans ?_;rw[List.set_set]
  have hg1:(aq (s.cells.set (R+s.x) ⟨r,s.attr,0⟩))[R+s.x]?=some [.int .i32 r,.int .u16 s.attr,.int .u8 0]:=by
   rw[<-bM];exact List.getElem?_set_self (by rw[az];omega)
  have hg2:=bf (L:=s.cells.set (R+s.x) ⟨r,s.attr,1⟩) (i:=R+(s.x+1)) (by simp;omega)
  rcases hX with rfl | ⟨dx,rfl⟩
  all_goals
   unfold WpH gJ
   simp -implicitDefEqProofs -dsimp only[ah,ai hb,o1,o2,o3,vcS,↓vcQ,simprocAttr]
   refine oK sv.z1 Aw.2 Aw.1 fun T1 q hq hA g1=>?_
   have hqb:q≠T.length:=by omega
   have hbq:T.length≠q:=by omega
   have hb1:=g1.at hb (by simp)
   simp -implicitDefEqProofs -dsimp only[ah,ai hb1,ai hA,fun x=>ai (bn hA x hqb),fun x y=>ai (bn (bZ hb1 x) y hbq),wR,wS,w2,b0,b1,b2,b3,hg,hg1,hg2,hs1,aeh,hs3,Nat.zero_add,o1,o2,o3,List.set_set,vcS,↓vcQ,simprocAttr]
   refine zv (L:=fL s r 2) (bZ (bn hA _ hqb) _) lS.symm gS hy fun T3 pp hpp hA3 g3=>?_
   have hb3:=g3.at (bn (bZ hb1 (some (Ob.box _))) (some (Ob.arr 3 (aq (fL s r 2)))) hbq) (by simp)
   have hz3:=g3.at (bn (bn (g1.at hz (by simp)) (some (Ob.box _)) hne) (some (Ob.arr 3 (aq (fL s r 2)))) (show T.length+1≠q by omega)) (by simp)
   have lT1:=g1.1
   simp only[List.length_set] at hpp
   have kk:ax T T3 []:=(((kA.new g1 (by simp)).put (Dd.ge (Nat.le_refl _)) (some (Ob.box _))).put (o:=q) (Dd.ge (by omega)) (some (Ob.arr 3 (aq (fL s r 2))))).new g3 (by simp)
   have kf:=fun x y=>(kk.put (o:=T.length) (Dd.ge (Nat.le_refl _)) x).put (o:=T.length+1) (Dd.ge (by omega)) y
   have hAf:=fun x y=>bn (bn hA3 (some (Ob.box x)) (show pp≠T.length by omega)) (some (Ob.box y)) (show pp≠T.length+1 by omega)
   rcases Nat.lt_or_ge (s.x+2) s.aa with c1 | c1
   ·have c1':¬(s.aa:Int)<=((s.x+2:Nat):Int):=by omega
    have e:jY s r 2={ s with cells:=cO (fL s r 2) s.aa s.y,x:=s.x+2}:=by unfold jY;rw[if_neg (by omega)]
    rw[e] at h
    simp -implicitDefEqProofs -dsimp only[ah,ai hb3,ai hz3,fun y=>ai (bn hz3 y hne),w1,w5,c1',o1,o2,o3,List.set_set,vcS,↓vcQ,simprocAttr]
    exact hQ _ _ rfl (bZ (bn hz3 _ hne) _) (Dr (s:={ s with cells:=cO (fL s r 2) s.aa s.y,x:=s.x+2}) (hAf _ _) (by rw[lM,lS]) (kf _ _) (by omega) ⟨rfl,sv.z2,sv.z3,sv.pa⟩ h)
   ·have c1':(s.aa:Int)<=((s.x+2:Nat):Int):=by omega
    have e:jY s r 2={ s with cells:=cO (fL s r 2) s.aa s.y,x:=s.aa-1,wrap:=s.auto}:=by unfold jY;rw[if_pos (by omega)]
    rw[e] at h
    simp -implicitDefEqProofs -dsimp only[ah,ai hb3,ai hz3,fun y=>ai (bn hz3 y hne),w1,w5,c1',o1,o2,o3,List.set_set,vcS,↓vcQ,simprocAttr]
    exact hQ _ _ rfl (bZ (bn hz3 _ hne) _) (Dr (s:={ s with cells:=cO (fL s r 2) s.aa s.y,x:=s.aa-1,wrap:=s.auto}) (hAf _ _) (by rw[lM,lS]) (kf _ _) (by omega) ⟨rfl,sv.z2,sv.z3,sv.pa⟩ h)
theorem zu {A:ay}{s:Sc}{p:Pa}{z1 z2 z3:Nat}{k1 k2 k3:SK}{m pr:Int}{d1 d2 d3:DV}{r:Int}{w:Nat}{Q:Exit->St->Prop}(kA:ax T A [])(hb:A[T.length]?=some (some (.box (scD s z1 z2 z3 k1 k2 k3 m pr d1 d2 d3))))(hz:A[T.length+1]?=some (some (.box lp)))
  (ok:aR s) (hwr:s.wrap=false) (sv:ScV s p z1 z2 z3 m pr d1 d2 d3) (hw:w=1\/w=2) (h:∀T' v',ax T T' []->aJ (if w=2/\s.x+1=s.aa then (if s.auto=false\/s.aa=1 then s else jY { cH s with x:=0} r 2) else jY s r w) p v'->K v' T')
  (hQ:∀(l:List DV) T',l.length=24->T'[T.length+1]?=some (some (.box l))->(T.length<=T'.length/\∃d' T'',eK ⟨[(0,.agg l)],T'⟩ ⟨[(0,d')],T''⟩/\K d' T'')->Q .ret ⟨[(4,.ptr (T.length+1) 0 0)],T'⟩) {X:List (Nat × DV)} (hX:X=[]\/∃d,X=[(13,d)]) {wI:Int} (hwI:wI=w) :
  WpH PG (tab []) 100 eE Q ⟨(1,.int .i32 r)::(2,.ptr T.length 0 0)::(4,.ptr (T.length+1) 0 0)::(5,.int .i64 wI)::X,A⟩:=by
 subst hwI
 obtain ⟨o1,o2,o3⟩:=sv.pa.one
 have hr:=ok.g.r
 have hc:=ok.g.c
 have hx:=ok.x
 have hne:T.length+1≠T.length:=by omega
 have lz:=eI hz
 have hb0:=hb
 have hz0:=hz
 unfold scD at hb
 unfold lp at hz
 rw[hwr] at hb
 have w5:IntKind.i64.wrap ((s.aa:Int)-1)=((s.aa-1:Nat):Int):=by rw[aO (by omega) (by omega)];omega
 rcases hw with rfl | rfl
 ·rw[if_neg (by omega)] at h
  rcases hX with rfl | ⟨dx,rfl⟩
  all_goals
   unfold WpH eE
   simp -implicitDefEqProofs -dsimp only[ah,ai hb,w5,o1,o2,o3,↓fD,vcS,↓vcQ,simprocAttr]
   exact tv kA hb0 hz0 ok sv (.inl rfl) (by omega) h hQ (X:=[(26,.bool false)]) (.inr ⟨_,rfl⟩) rfl
 ·rcases Nat.lt_or_ge (s.x+1) s.aa with c1 | c1
  ·rw[if_neg (by omega)] at h
   have c1':¬(s.x:Int)=((s.aa-1:Nat):Int):=by omega
   rcases hX with rfl | ⟨dx,rfl⟩
   all_goals
    unfold WpH eE
    simp -implicitDefEqProofs -dsimp only[ah,ai hb,w5,o1,o2,o3,eq_false c1',↓fD,vcS,↓vcQ,simprocAttr]
    exact tv kA hb0 hz0 ok sv (.inr rfl) (by omega) h hQ (X:=[(26,.bool false)]) (.inr ⟨_,rfl⟩) rfl
  ·rw[if_pos (by omega)] at h
   have c1':(s.x:Int)=((s.aa-1:Nat):Int):=by omega
   have n:=iy ok
   rcases Decidable.em (s.auto=false\/s.aa=1) with c2 | c2
   ·rw[if_pos c2] at h
    have kf:=fun y=>kA.put (o:=T.length+1) (Dd.ge (by omega)) y
    cases ha:s.auto with
    | false=>
     rw[ha] at hb
     have es:({ s with wrap:=false,auto:=false}:Sc)=s:=by cases s;simp only at hwr ha;subst hwr ha;rfl
     rw[<-es] at h
     rcases hX with rfl | ⟨dx,rfl⟩
     all_goals
      unfold WpH eE
      simp -implicitDefEqProofs -dsimp only[ah,ai hb,ai hz,w5,o1,o2,o3,eq_true c1',↓fD,vcS,↓vcQ,simprocAttr]
      exact hQ _ _ rfl (bZ hz _) (Mn (kf _) (h _ _ (kf _) (aJ.of (s:={ s with wrap:=false,auto:=false}) ⟨sv.z1,sv.z2,sv.z3,sv.pa⟩)))
    | true=>
     rw[ha] at hb
     have es:({ s with wrap:=false,auto:=true}:Sc)=s:=by cases s;simp only at hwr ha;subst hwr ha;rfl
     rw[<-es] at h
     have c3:(s.aa:Int)=1:=by rcases c2 with c2 | c2;rw[ha] at c2;cases c2;omega
     rcases hX with rfl | ⟨dx,rfl⟩
     all_goals
      unfold WpH eE
      simp -implicitDefEqProofs -dsimp only[ah,ai hb,ai hz,w5,o1,o2,o3,eq_true c1',eq_true c3,↓fD,vcS,↓vcQ,simprocAttr]
      exact hQ _ _ rfl (bZ hz _) (Mn (kf _) (h _ _ (kf _) (aJ.of (s:={ s with wrap:=false,auto:=true}) ⟨sv.z1,sv.z2,sv.z3,sv.pa⟩)))
   ·rw[if_neg c2] at h
    have ha:s.auto=true:=by cases h:s.auto;exact (c2 (.inl h)).elim;rfl
    rw[ha] at hb
    have es:({ s with wrap:=false,auto:=true}:Sc)=s:=by cases s;simp only at hwr ha;subst hwr ha;rfl
    have c3:¬(s.aa:Int)=1:=by omega
    rcases hX with rfl | ⟨dx,rfl⟩
    all_goals
     unfold WpH eE
     simp -implicitDefEqProofs -dsimp only[ah,ai hb,w5,o1,o2,o3,eq_true c1',eq_false c3,↓fD,vcS,↓vcQ,simprocAttr]
     refine uw (s:=s) (p:=p) ok (by rw[<-es];exact aJ.of (s:={ s with wrap:=false,auto:=true}) ⟨sv.z1,sv.z2,sv.z3,sv.pa⟩) fun T1 v' g1 hv'=>?_
     obtain ⟨y1,y2,y3,j1,j2,j3,m',pr',e1,e2,e3,sv',rfl⟩:=hv'
     obtain ⟨p1,p2,p3⟩:=sv'.pa.one
     have hb1:=g1.at hb (by simp)
     have hz1:=g1.at hz0 (by simp)
     unfold scD
     simp -implicitDefEqProofs -dsimp only[ah,ai hb1,p1,p2,p3,List.set_set,↓fD,vcS,↓vcQ,simprocAttr]
     have kA1:=fun x=>(kA.new g1 (by simp)).put (o:=T.length) (Dd.ge (Nat.le_refl _)) x
     refine tv (s:={ cH s with x:=0}) (z1:=y1) (z2:=y2) (z3:=y3) (k1:=j1) (k2:=j2) (k3:=j3) (m:=m') (pr:=pr') (d1:=e1) (d2:=e2) (d3:=e3) (kA1 _) (bZ hb1 _) (bn hz1 _ hne) (n.1.x0 n.2.2.2.2.1) ⟨sv'.z1,sv'.z2,sv'.z3,sv'.pa⟩ (.inr rfl) (by show 0+2<=(cH s).aa;rw[n.2.2.1];omega) h hQ (.inl rfl) rfl
theorem Qc {s:Sc}{p:Pa}{v:DV}{r:Int}(hr:-2147483648<=r/\r<=2147483647)(ok:aR s)(hv:aJ s p v)(h:∀T' v',ax T T' []->aJ (je s r) p v'->K v' T'):aj PG 71 [v,.int .i32 r] T K:=by
 have hw2:dB r=0\/dB r=1\/dB r=2:=by unfold dB;split;exact .inl rfl;split;exact .inr (.inr rfl);exact .inr (.inl rfl)
 have n:=iy ok
 have wo:=qh ok
 have hne:T.length+1≠T.length:=by omega
 obtain ⟨z1,z2,z3,k1,k2,k3,m,pr,d1,d2,d3,sv,rfl⟩:=hv
 obtain ⟨o1,o2,o3⟩:=sv.pa.one
 have fin:∀(l:List DV) (T':ay),l.length=24->T'[T.length+1]?=some (some (.box l))->(T.length<=T'.length/\∃d' T'',eK ⟨[(0,.agg l)],T'⟩ ⟨[(0,d')],T''⟩/\K d' T'')->j9 [Res.c 4 true 24] (fun d T'=>T.length<=T'.length/\∃d' T'',eK ⟨[(0,d)],T'⟩ ⟨[(0,d')],T''⟩/\K d' T'') .ret ⟨[(4,.ptr (T.length+1) 0 0)],T'⟩:=fun l T' h24 hl hh=>by
  simp -implicitDefEqProofs -dsimp only[ah,ai hl,vcS,↓vcQ,simprocAttr]
  rw[List.take_of_length_le (by omega)]
  exact ⟨by omega,hh⟩
 cases hwr:s.wrap with
 | false=>
  have ew:gE s=s:=by unfold gE;rw[hwr];rfl
  have es:({ s with wrap:=false}:Sc)=s:=by cases s;simp only at hwr;subst hwr;rfl
  have eb:scD s z1 z2 z3 k1 k2 k3 m pr d1 d2 d3=scD { s with wrap:=false} z1 z2 z3 k1 k2 k3 m pr d1 d2 d3:=by rw[es]
  rw[eb]
  unfold scD
  refine aj.fq FOk.nil uH (by simp[mc]) ?_
  unfold mc
  dsimp only
  simp -implicitDefEqProofs -dsimp only[ah,o1,o2,o3,vcS,↓vcQ,simprocAttr]
  refine FT hr fun T1 g1=>?_
  have hb1:=g1.at (aZ T [_] (some (Ob.box _))) (by simp)
  have hb2:=g1.at (bl T [_,some (Ob.box _)] 1) (by simp)
  have kk:ax T T1 []:=(ax.app T _ []).new g1 (by simp)
  unfold je at h
  rcases hw2 with e | e
  ·rw[if_pos e] at h
   rw[e]
   simp -implicitDefEqProofs -dsimp only[ah,ai hb1,ai hb2,o1,o2,o3,vcS,↓vcQ,simprocAttr]
   rw[<-es] at h
   have kf:=fun y=>kk.put (o:=T.length+1) (Dd.ge (by omega)) y
   exact Mn (kf _) (h _ _ (kf _) (aJ.of (s:={ s with wrap:=false}) ⟨sv.z1,sv.z2,sv.z3,sv.pa⟩))
  ·rw[if_neg (by omega),ew] at h
   have e0:¬((dB r:Nat):Int)=0:=by omega
   simp -implicitDefEqProofs -dsimp only[ah,ai hb1,eq_false e0,↓lE,vcS,↓vcQ,simprocAttr]
   refine zu (s:=s) (z1:=z1) (z2:=z2) (z3:=z3) (k1:=k1) (k2:=k2) (k3:=k3) (m:=m) (pr:=pr) (d1:=d1) (d2:=d2) (d3:=d3) kk (by rw[eb];exact hb1) hb2 ok hwr sv e h fin (X:=[(13,.bool false)]) (.inr ⟨_,rfl⟩) rfl
 | true=>
  have ew:gE s={ cH s with x:=0}:=by unfold gE;rw[hwr];rfl
  have es:({ s with wrap:=true}:Sc)=s:=by cases s;simp only at hwr;subst hwr;rfl
  have eb:scD s z1 z2 z3 k1 k2 k3 m pr d1 d2 d3=scD { s with wrap:=true} z1 z2 z3 k1 k2 k3 m pr d1 d2 d3:=by rw[es]
  rw[eb]
  unfold scD
  refine aj.fq FOk.nil uH (by simp[mc]) ?_
  unfold mc
  dsimp only
  simp -implicitDefEqProofs -dsimp only[ah,o1,o2,o3,vcS,↓vcQ,simprocAttr]
  refine FT hr fun T1 g1=>?_
  have hb1:=g1.at (aZ T [_] (some (Ob.box _))) (by simp)
  have hb2:=g1.at (bl T [_,some (Ob.box _)] 1) (by simp)
  have kk:ax T T1 []:=(ax.app T _ []).new g1 (by simp)
  unfold je at h
  rcases hw2 with e | e
  ·rw[if_pos e] at h
   rw[e]
   simp -implicitDefEqProofs -dsimp only[ah,ai hb1,ai hb2,o1,o2,o3,vcS,↓vcQ,simprocAttr]
   rw[<-es] at h
   have kf:=fun y=>kk.put (o:=T.length+1) (Dd.ge (by omega)) y
   exact Mn (kf _) (h _ _ (kf _) (aJ.of (s:={ s with wrap:=true}) ⟨sv.z1,sv.z2,sv.z3,sv.pa⟩))
  ·rw[if_neg (by omega),ew] at h
   have e0:¬((dB r:Nat):Int)=0:=by omega
   simp -implicitDefEqProofs -dsimp only[ah,ai hb1,o1,o2,o3,eq_false e0,↓lE,vcS,↓vcQ,simprocAttr]
   refine uw (s:=s) (p:=p) ok (by rw[<-es];exact aJ.of (s:={ s with wrap:=true}) ⟨sv.z1,sv.z2,sv.z3,sv.pa⟩) fun T2 v' g2 hv'=>?_
   obtain ⟨y1,y2,y3,j1,j2,j3,m',pr',e1,e2,e3,sv',rfl⟩:=hv'
   obtain ⟨p1,p2,p3⟩:=sv'.pa.one
   have hb3:=g2.at hb1 (by simp)
   have hz3:=g2.at hb2 (by simp)
   unfold scD
   simp -implicitDefEqProofs -dsimp only[ah,ai hb3,p1,p2,p3,List.set_set,↓lE,vcS,↓vcQ,simprocAttr]
   rw[<-n.2.2.1,<-n.2.2.2.2.2.1] at h
   have kA1:=fun x=>(kk.new g2 (by simp)).put (o:=T.length) (Dd.ge (Nat.le_refl _)) x
   refine zu (s:={ cH s with x:=0}) (z1:=y1) (z2:=y2) (z3:=y3) (k1:=j1) (k2:=j2) (k3:=j3) (m:=m') (pr:=pr') (d1:=e1) (d2:=e2) (d3:=e3) (kA1 _) (bZ hb3 _) (bn hz3 _ hne) (n.1.x0 n.2.2.2.2.1) n.2.2.2.2.1 ⟨sv'.z1,sv'.z2,sv'.z3,sv'.pa⟩ e h fin (.inl rfl) rfl
end Go.Proofs.YtjmnbpilnneonaaGreatDoor
