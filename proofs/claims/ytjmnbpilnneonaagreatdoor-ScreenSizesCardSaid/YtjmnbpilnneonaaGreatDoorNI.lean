/- Texts R15, R16, R17 in one. -/
import Derived.Test.YtjmnbpilnneonaaGreatDoorNH
import Derived.Test.YtjmnbpilnneonaaGreatDoorNA
set_option linter.unusedVariables false
set_option linter.unusedSimpArgs false
set_option maxRecDepth 10000
namespace Go.Proofs.YtjmnbpilnneonaaGreatDoor
open Go.RowKit
noncomputable section
variable {T:ay}{s:Sc}{p:Pa}{v:DV}{sz:Nat}{sk:SK}{K:DV->ay->Prop}{ps:List Int}{k n mm:Int}
theorem PY {K:DV->ay->Prop}(ok:aR s)(hv:aJ s p v)(hs:sz=1\/ps=[])(i1:aD .i64 (.sl sz (af .i64 ps) sk))(hl:ps.length<=1000000)(F:SqF ps n mm k)(h:∀T' v',ax T T' []->aJ (if n-1<(if bF ps 1=0\/(s.rows:Int)<bF ps 1 then (s.rows:Int) else bF ps 1)-1 then { s with y:=0,x:=0,wrap:=false,top:=(n-1).toNat,bot:=((if bF ps 1=0\/(s.rows:Int)<bF ps 1 then (s.rows:Int) else bF ps 1)-1).toNat} else s) p v'->K v' T'):aj PG 75 [v,.int .u8 114,.sl sz (af .i64 ps) sk] T K:=by
 obtain ⟨z1,z2,z3,k1,k2,k3,m,pr,d1,d2,d3,sv,rfl⟩:=hv
 obtain ⟨o1,o2,o3⟩:=sv.pa.one
 have hr:=ok.g.r
 have hc:=ok.g.c
 have hyr:=ok.y
 have hxr:=ok.x
 have hne:T.length+1≠T.length:=by omega
 have fn:=F.en
 have fm:=F.em
 have fk:=F.ek
 have rn:=F.rn
 have rm:=F.rm
 have rk:=F.rk
 have sz0:(0:Int).toNat=0:=rfl
 have sz1:(1:Int).toNat=1:=rfl
 have q0:0<=(if bF ps 1=0 then (s.rows:Int) else bF ps 1)/\(if bF ps 1=0 then (s.rows:Int) else bF ps 1)<=65535:=by
  have:=rm;have:=fm;split <;> rename_i e <;> simp only[e,if_true,if_false] at fm <;> omega
 have eb:(if bF ps 1=0\/(s.rows:Int)<bF ps 1 then (s.rows:Int) else bF ps 1)-1=min (if bF ps 1=0 then (s.rows:Int) else bF ps 1) s.rows-1:=by
  rcases Decidable.em (bF ps 1=0) with e | e
  ·rw[if_pos (.inl e),if_pos e];omega
  ·rw[if_neg e]
   rcases Decidable.em ((s.rows:Int)<bF ps 1) with e2 | e2
   ·rw[if_pos (.inr e2)];omega
   ·rw[if_neg (by omega)];omega
 rw[eb] at h
 clear eb
 obtain ⟨q,hq⟩:∃q,(if bF ps 1=0 then (s.rows:Int) else bF ps 1)=q:=⟨_,rfl⟩
 rw[hq] at q0 h
 obtain ⟨bt,ebt⟩:∃bt,bt=min q (s.rows:Int)-1:=⟨_,rfl⟩
 rw[<-ebt] at h
 have w1:IntKind.i64.wrap (n-1)=n-1:=aO (by omega) (by omega)
 have w2:IntKind.i64.wrap (min q (s.rows:Int)-1)=bt:=by rw[aO (by omega) (by omega),ebt]
 rcases Decidable.em (n-1<bt) with c | c
 ·rw[if_pos c] at h
  have et:toF s 0 0={ s with y:=0,x:=0,wrap:=false}:=by unfold toF;simp
  unfold scD
  refine aj.aE dj bw (by simp[aU]) ?_
  unfold aU
  dsimp only
  simp -implicitDefEqProofs -dsimp only[ah,eW,eX,br,bC,cA,bp,cB,bB,aV,aW,bq,sz0,sz1,i1,hl,fn,fm,fk,aL,o1,o2,o3,hq,w1,w2,c,vcS,↓vcQ,simprocAttr]
  refine sV (s:=s) ok (aJ.of sv) fun T1 v' g1 hv'=>?_
  rw[et] at hv'
  obtain ⟨y1,y2,y3,j1,j2,j3,m',pr',e1,e2,e3,sv',rfl⟩:=hv'
  obtain ⟨p1,p2,p3⟩:=sv'.pa.one
  unfold scD
  have hb1:=g1.at (aZ T [_] (some (Ob.box _))) (by simp)
  have hb2:=g1.at (bl T [_,some (Ob.box _)] 1) (by simp)
  simp -implicitDefEqProofs -dsimp only[ah,ai hb1,ai hb2,fun y=>ai (bn hb2 y hne),p1,p2,p3,List.set_set,vcS,↓vcQ,simprocAttr]
  have kk:ax T T1 []:=(ax.app T _ []).new g1 (by simp)
  have kf:=fun x y=>(kk.put (o:=T.length) (Dd.ge (Nat.le_refl _)) x).put (o:=T.length+1) (Dd.ge (by omega)) y
  have e1:(n-1:Int)=(((n-1).toNat:Nat):Int):=by omega
  have e2:(bt:Int)=((bt.toNat:Nat):Int):=by omega
  rw[e1,e2]
  exact gI (kf _ _) fun q=>h _ _ q (aJ.of (s:={ s with y:=0,x:=0,wrap:=false,top:=(n-1).toNat,bot:=bt.toNat}) ⟨sv'.z1,sv'.z2,sv'.z3,sv'.pa⟩)
 ·rw[if_neg c] at h
  unfold scD
  refine aj.aE dj bw (by simp[aU]) ?_
  unfold aU
  dsimp only
  simp -implicitDefEqProofs -dsimp only[ah,eW,eX,br,bC,cA,bp,cB,bB,aV,aW,bq,sz0,sz1,i1,hl,fn,fm,fk,aL,o1,o2,o3,hq,w1,w2,eq_false c,vcS,↓vcQ,simprocAttr]
  exact h _ _ (ax.app _ _ _) (aJ.of (s:=s) ⟨sv.z1,sv.z2,sv.z3,sv.pa⟩)
theorem P0 (ok:aR s)(hv:aJ s p v)(hs:sz=1\/ps=[])(i1:aD .i64 (.sl sz (af .i64 ps) sk))(hl:ps.length<=1000000)(F:SqF ps n mm k)(h:∀T' v',ax T T' []->aJ (if k=3 then { s with aP:=List.replicate s.aa false} else if k=0 then { s with aP:=s.aP.set s.x false} else s) p v'->K v' T'):aj PG 75 [v,.int .u8 103,.sl sz (af .i64 ps) sk] T K:=by
 obtain ⟨z1,z2,z3,k1,k2,k3,m,pr,d1,d2,d3,sv,rfl⟩:=hv
 obtain ⟨o1,o2,o3⟩:=sv.pa.one
 have hr:=ok.g.r
 have hc:=ok.g.c
 have hyr:=ok.y
 have hxr:=ok.x
 have hne:T.length+1≠T.length:=by omega
 have fn:=F.en
 have fm:=F.em
 have fk:=F.ek
 have rn:=F.rn
 have rm:=F.rm
 have rk:=F.rk
 have sz0:(0:Int).toNat=0:=rfl
 have sz1:(1:Int).toNat=1:=rfl
 have hz2:=sv.z2
 subst hz2
 have ht:=ok.aP
 have tn:=DI (L:=s.aP) (by omega)
 have tl:s.aP.length<=1000000:=by omega
 have h2':(s.x:Int)<(s.aP.length:Int):=by omega
 have i0:(0:Int)<=s.x:=by omega
 have hg:=fl (L:=s.aP) (i:=s.x) (by omega)
 have bY:=jg s.aP s.x false
 have n0:(0:Int)<=s.aa:=by omega
 have hb1:(s.aa:Int)*1<=140737488355328/\(s.aa:Int)<=4611686018427387904:=by omega
 rcases Decidable.em (k=3) with c3 | c3
 ·rw[if_pos c3] at h
  have c0:¬k=0:=by omega
  unfold scD
  refine aj.fq dj bw (by simp[aU]) ?_
  unfold aU
  dsimp only
  simp -implicitDefEqProofs -dsimp only[ah,eW,eX,br,bC,cA,bp,cB,bB,aV,aW,bq,sz0,sz1,i1,hl,fn,fm,fk,aL,o1,o2,o3,aY,tn,tl,eq_true (ov s.aP),h2',i0,hg,bY,Nat.zero_add,n0,hb1,Int.le_refl,pR,eq_false c0,eq_true c3,vcS,↓vcQ,simprocAttr]
  exact ⟨by omega,(TM (s:={ s with aP:=List.replicate s.aa false}) (q:=T.length+3) (n:=s.aa) (bl T [_,_,_,_] 3) (by simp) (ax.app T _ []) (by omega) ⟨sv.z1,rfl,sv.z3,sv.pa⟩ h).2⟩
 ·rw[if_neg c3] at h
  rcases Decidable.em (k=0) with c0 | c0
  ·rw[if_pos c0] at h
   unfold scD
   refine aj.fq dj bw (by simp[aU]) ?_
   unfold aU
   dsimp only
   simp -implicitDefEqProofs -dsimp only[ah,eW,eX,br,bC,cA,bp,cB,bB,aV,aW,bq,sz0,sz1,i1,hl,fn,fm,fk,aL,o1,o2,o3,aY,tn,tl,eq_true (ov s.aP),h2',i0,hg,bY,Nat.zero_add,n0,hb1,Int.le_refl,pR,eq_true c0,eq_false c3,vcS,↓vcQ,simprocAttr]
   exact ⟨by omega,(TM (s:={ s with aP:=s.aP.set s.x false}) (q:=T.length+2) (n:=s.aP.length) (bl T [_,_,_] 2) (by simp) (ax.app T _ []) (by omega) ⟨sv.z1,rfl,sv.z3,sv.pa⟩ h).2⟩
  ·rw[if_neg c0] at h
   unfold scD
   refine aj.aE dj bw (by simp[aU]) ?_
   unfold aU
   dsimp only
   simp -implicitDefEqProofs -dsimp only[ah,eW,eX,br,bC,cA,bp,cB,bB,aV,aW,bq,sz0,sz1,i1,hl,fn,fm,fk,aL,o1,o2,o3,eq_false c0,eq_false c3,vcS,↓vcQ,simprocAttr]
   exact h _ _ (ax.app _ _ _) (aJ.of (s:=s) ⟨sv.z1,sv.z2,sv.z3,sv.pa⟩)
theorem PZ (ok:aR s)(hv:aJ s p v)(hs:sz=1\/ps=[])(i1:aD .i64 (.sl sz (af .i64 ps) sk))(hl:ps.length<=1000000)(F:SqF ps n mm k)(h:∀T' v',ax T T' []->aJ ({ s with attr:=if ps=[] then 0 else ps.foldl bR s.attr}) p v'->K v' T'):aj PG 75 [v,.int .u8 109,.sl sz (af .i64 ps) sk] T K:=by
 obtain ⟨z1,z2,z3,k1,k2,k3,m,pr,d1,d2,d3,sv,rfl⟩:=hv
 obtain ⟨o1,o2,o3⟩:=sv.pa.one
 have hr:=ok.g.r
 have hc:=ok.g.c
 have hyr:=ok.y
 have hxr:=ok.x
 have hne:T.length+1≠T.length:=by omega
 have fn:=F.en
 have fm:=F.em
 have fk:=F.ek
 have rn:=F.rn
 have rm:=F.rm
 have rk:=F.rk
 have sz0:(0:Int).toNat=0:=rfl
 have sz1:(1:Int).toNat=1:=rfl
 have hlr:(af .i64 ps).length=ps.length:=by simp[af]
 rcases Decidable.em (ps=[]) with hp | hp
 ·rw[if_pos hp] at h
  have hp0:(ps.length:Int)=0:=by rw[hp];rfl
  unfold scD
  refine aj.aE dj bw (by simp[aU]) ?_
  unfold aU
  dsimp only
  simp -implicitDefEqProofs -dsimp only[ah,eW,eX,br,bC,cA,bp,cB,bB,aV,aW,bq,sz0,sz1,i1,hl,fn,fm,fk,aL,o1,o2,o3,hlr,eq_true hp0,vcS,↓vcQ,simprocAttr]
  refine bk.inv dj (S:=fun i:Nat=>⟨[(2,.sl sz (af .i64 ps) sk),(3,.ptr T.length 0 0),(6,.ptr (T.length+1) 0 0),(12,.int .i64 i)],T++ [some (.box (scD { s with attr:=0} z1 z2 z3 k1 k2 k3 m pr d1 d2 d3)),some (.box lp)]⟩)
   (I:=fun i=>True) (μ:=fun i=>0) 0 trivial ?_ ?_
  ·simp -implicitDefEqProofs -dsimp only[an,vcS,↓vcQ,simprocAttr]
   exact aH _
  ·intro i _
   unfold tH
   dsimp only[scD,lp]
   have hii:¬(i:Int)<ps.length:=by omega
   simp -implicitDefEqProofs -dsimp only[ah,eW,eX,br,bC,cA,bp,cB,bB,aV,aW,bq,hlr,hii,o1,o2,o3,an,vcS,↓vcQ,simprocAttr]
   exact h _ _ (ax.app _ _ _) (aJ.of (s:={ s with attr:=0}) ⟨sv.z1,sv.z2,sv.z3,sv.pa⟩)
 ·rw[if_neg hp] at h
  have hp0:¬(ps.length:Int)=0:=fun e=>hp (List.eq_nil_of_length_eq_zero (by omega))
  have hsz:sz=1:=hs.resolve_right hp
  subst hsz
  unfold scD
  refine aj.aE dj bw (by simp[aU]) ?_
  unfold aU
  dsimp only
  simp -implicitDefEqProofs -dsimp only[ah,eW,eX,br,bC,cA,bp,cB,bB,aV,aW,bq,sz0,sz1,i1,hl,fn,fm,fk,aL,o1,o2,o3,hlr,eq_false hp0,vcS,↓vcQ,simprocAttr]
  refine bk.inv dj (S:=fun i:Nat=>⟨[(2,.sl 1 (af .i64 ps) sk),(3,.ptr T.length 0 0),(6,.ptr (T.length+1) 0 0),(12,.int .i64 i)],T++ [some (.box (scD { s with attr:=(ps.take i).foldl bR s.attr} z1 z2 z3 k1 k2 k3 m pr d1 d2 d3)),some (.box lp)]⟩)
   (I:=fun i=>i<=ps.length) (μ:=fun i=>ps.length-i) 0 (Nat.zero_le _) ?_ ?_
  ·simp -implicitDefEqProofs -dsimp only[an,vcS,↓vcQ,simprocAttr]
   exact aH _
  ·intro i hi
   unfold tH
   have hst:=fun hi=>An (ps:=ps) (a:=s.attr) (i:=i) hi
   have hin:=vK (ps:=ps.take i) ok.at'
   have eV:ps.length<=i->(ps.take i).foldl bR s.attr=ps.foldl bR s.attr:=fun hh=>by rw[List.take_of_length_le hh]
   have w1:IntKind.i64.wrap ((i:Int)+1)=((i+1:Nat):Int):=by rw[aO (by omega) (by omega)];omega
   rcases Nat.lt_or_ge i ps.length with hlt | hge
   ·have hst:=hst hlt
    have hii:(i:Int)<ps.length:=by omega
    have i0:(0:Int)<=i:=by omega
    have hg:(af .i64 ps)[i]?=some [.int .i64 (ps.getD i 0)]:=by simp[af,hlt]
    generalize (ps.take i).foldl bR s.attr=a at *
    generalize ps.getD i 0=c at *
    dsimp only[scD,lp]
    simp -implicitDefEqProofs -dsimp only[ah,eW,eX,br,bC,cA,bp,cB,bB,aV,aW,bq,hlr,hii,i0,hg,hin,w1,Nat.zero_add,o1,o2,o3,an,vcS,↓vcQ,simprocAttr]
    refine ⟨i+1,⟨rfl, ?_⟩,hlt,by omega⟩
    rw[hst]
    exact aH _
   ·have hii:¬(i:Int)<ps.length:=by omega
    rw[eV hge]
    dsimp only[scD,lp]
    simp -implicitDefEqProofs -dsimp only[ah,eW,eX,br,bC,cA,bp,cB,bB,aV,aW,bq,hlr,hii,o1,o2,o3,an,vcS,↓vcQ,simprocAttr]
    exact h _ _ (ax.app _ _ _) (aJ.of (s:={ s with attr:=ps.foldl bR s.attr}) ⟨sv.z1,sv.z2,sv.z3,sv.pa⟩)
theorem VR {b:Int}(ok:aR s)(hv:aJ s p v)(hs:sz=1\/ps=[])(i1:aD .i64 (.sl sz (af .i64 ps) sk))(hl:ps.length<=1000000)(F:SqF ps n mm k)(hb:b∉([65,66,67,68,71,96,100,72,102,74,75,76,77,64,80,88,83,84,114,103,109]:List Int))(h:∀T' v',ax T T' []->aJ s p v'->K v' T'):aj PG 75 [v,.int .u8 b,.sl sz (af .i64 ps) sk] T K:=by
 obtain ⟨z1,z2,z3,k1,k2,k3,m,pr,d1,d2,d3,sv,rfl⟩:=hv
 obtain ⟨o1,o2,o3⟩:=sv.pa.one
 have hr:=ok.g.r
 have hc:=ok.g.c
 have hyr:=ok.y
 have hxr:=ok.x
 have hne:T.length+1≠T.length:=by omega
 have fn:=F.en
 have fm:=F.em
 have fk:=F.ek
 have rn:=F.rn
 have rm:=F.rm
 have rk:=F.rk
 have sz0:(0:Int).toNat=0:=rfl
 have sz1:(1:Int).toNat=1:=rfl
 have f65:¬b=65:=fun e=>hb (by simp[e])
 have f66:¬b=66:=fun e=>hb (by simp[e])
 have f67:¬b=67:=fun e=>hb (by simp[e])
 have f68:¬b=68:=fun e=>hb (by simp[e])
 have f71:¬b=71:=fun e=>hb (by simp[e])
 have f96:¬b=96:=fun e=>hb (by simp[e])
 have f100:¬b=100:=fun e=>hb (by simp[e])
 have f72:¬b=72:=fun e=>hb (by simp[e])
 have f102:¬b=102:=fun e=>hb (by simp[e])
 have f74:¬b=74:=fun e=>hb (by simp[e])
 have f75:¬b=75:=fun e=>hb (by simp[e])
 have f76:¬b=76:=fun e=>hb (by simp[e])
 have f77:¬b=77:=fun e=>hb (by simp[e])
 have f64:¬b=64:=fun e=>hb (by simp[e])
 have f80:¬b=80:=fun e=>hb (by simp[e])
 have f88:¬b=88:=fun e=>hb (by simp[e])
 have f83:¬b=83:=fun e=>hb (by simp[e])
 have f84:¬b=84:=fun e=>hb (by simp[e])
 have f114:¬b=114:=fun e=>hb (by simp[e])
 have f103:¬b=103:=fun e=>hb (by simp[e])
 have f109:¬b=109:=fun e=>hb (by simp[e])
 unfold scD
 refine aj.aE dj bw (by simp[aU]) ?_
 unfold aU
 dsimp only
 simp -implicitDefEqProofs -dsimp only[ah,eW,eX,br,bC,cA,bp,cB,bB,aV,aW,bq,sz0,sz1,i1,hl,fn,fm,fk,aL,o1,o2,o3,eq_false f65,eq_false f66,eq_false f67,eq_false f68,eq_false f71,eq_false f96,eq_false f100,eq_false f72,eq_false f102,eq_false f74,eq_false f75,eq_false f76,eq_false f77,eq_false f64,eq_false f80,eq_false f88,eq_false f83,eq_false f84,eq_false f114,eq_false f103,eq_false f109,vcS,↓vcQ,simprocAttr]
 exact h _ _ (ax.app _ _ _) (aJ.of (s:=s) ⟨sv.z1,sv.z2,sv.z3,sv.pa⟩)
theorem aat {b:Int}(ok:aR s)(hv:aJ s p v)(hs:sz=1\/ps=[])(hl:ps.length<=1000000)(hps:∀k∈ps,0<=k/\k<=65535)(h:∀T' v',ax T T' []->aJ (eS s b ps) p v'->K v' T'):aj PG 75 [v,.int .u8 b,.sl sz (af .i64 ps) sk] T K:=by
 have F:=sqF hps
 have i1:aD .i64 (.sl sz (af .i64 ps) sk):=aQ hs ⟨by omega,fun n hn=>by have:=hps n hn;show (-9223372036854775808:Int)<=n/\n<=9223372036854775807;omega⟩
 unfold eS at h
 dsimp only at h
 rcases Decidable.em (b=65) with c65 | c65
 ·rw[if_pos c65] at h
  subst c65
  exact V6 ok hv hs i1 hl F h
 rw[if_neg c65] at h
 rcases Decidable.em (b=66) with c66 | c66
 ·rw[if_pos c66] at h
  subst c66
  exact V5 ok hv hs i1 hl F h
 rw[if_neg c66] at h
 rcases Decidable.em (b=67) with c67 | c67
 ·rw[if_pos c67] at h
  subst c67
  exact V4 ok hv hs i1 hl F h
 rw[if_neg c67] at h
 rcases Decidable.em (b=68) with c68 | c68
 ·rw[if_pos c68] at h
  subst c68
  exact V3 ok hv hs i1 hl F h
 rw[if_neg c68] at h
 rcases Decidable.em (b=71\/b=96) with c71 | c71
 ·rw[if_pos c71] at h
  rcases c71 with rfl | rfl
  ·exact V2 ok hv hs i1 hl F h
  ·exact VS ok hv hs i1 hl F h
 rw[if_neg c71] at h
 rcases Decidable.em (b=100) with c100 | c100
 ·rw[if_pos c100] at h
  subst c100
  exact Qb ok hv hs i1 hl F h
 rw[if_neg c100] at h
 rcases Decidable.em (b=72\/b=102) with c72 | c72
 ·rw[if_pos c72] at h
  rcases c72 with rfl | rfl
  ·exact V1 ok hv hs i1 hl F h
  ·exact Qa ok hv hs i1 hl F h
 rw[if_neg c72] at h
 rcases Decidable.em (b=74) with c74 | c74
 ·rw[if_pos c74] at h
  subst c74
  exact V0 ok hv hs i1 hl F h
 rw[if_neg c74] at h
 rcases Decidable.em (b=75) with c75 | c75
 ·rw[if_pos c75] at h
  subst c75
  exact VZ ok hv hs i1 hl F h
 rw[if_neg c75] at h
 rcases Decidable.em (b=76) with c76 | c76
 ·rw[if_pos c76] at h
  subst c76
  exact VY ok hv hs i1 hl F h
 rw[if_neg c76] at h
 rcases Decidable.em (b=77) with c77 | c77
 ·rw[if_pos c77] at h
  subst c77
  exact VX ok hv hs i1 hl F h
 rw[if_neg c77] at h
 rcases Decidable.em (b=83) with c83 | c83
 ·rw[if_pos c83] at h
  subst c83
  exact VV ok hv hs i1 hl F h
 rw[if_neg c83] at h
 rcases Decidable.em (b=84) with c84 | c84
 ·rw[if_pos c84] at h
  subst c84
  exact VU ok hv hs i1 hl F h
 rw[if_neg c84] at h
 rcases Decidable.em (b=64) with c64 | c64
 ·rw[if_pos c64] at h
  subst c64
  exact V7 ok hv hs i1 hl F h
 rw[if_neg c64] at h
 rcases Decidable.em (b=80) with c80 | c80
 ·rw[if_pos c80] at h
  subst c80
  exact VW ok hv hs i1 hl F h
 rw[if_neg c80] at h
 rcases Decidable.em (b=88) with c88 | c88
 ·rw[if_pos c88] at h
  subst c88
  exact VT ok hv hs i1 hl F h
 rw[if_neg c88] at h
 rcases Decidable.em (b=114) with c114 | c114
 ·rw[if_pos c114] at h
  subst c114
  exact PY ok hv hs i1 hl F h
 rw[if_neg c114] at h
 rcases Decidable.em (b=103) with c103 | c103
 ·rw[if_pos c103] at h
  subst c103
  exact P0 ok hv hs i1 hl F h
 rw[if_neg c103] at h
 rcases Decidable.em (b=109) with c109 | c109
 ·rw[if_pos c109] at h
  subst c109
  exact PZ ok hv hs i1 hl F h
 rw[if_neg c109] at h
 exact VR ok hv hs i1 hl F (by simp only[List.mem_cons,List.not_mem_nil,or_false];omega) h
def wV:RC:=(.seq (SR [MV 50 5,FA 51 4 3,LD 52 51,OP 53 (.len (.t 52)),BT 54 .lss 50 53] [2,3,4,5,54] (.cond (.t 54) .skip (.ext 1))) (.seq (.blk 2 (.cJ (.take (LT 57 24 2) [] (.take (FA 58 4 3) [] (.take (LD 59 58) [] (.take (MV 60 5) [] (.take (OP 61 (.aT 1 (.t 59) (.t 60))) [] (.take (LD 62 61) [] (.take (FA 63 2 3) [] (.take (LD 64 63) [] (.take (OP 65 (.bin .eql (.t 64) (.c (.int .u8 104)))) [] (.mid (OP 66 (.call 74 [.t 57,.t 62,.t 65])) (.op (SA 24 2 66) .done))))))))))) 0 [2,3,4,5])) (.reg [MV 55 5,BI 56 .add 55 1,MV 5 56] 0 [2,3,4,5])))
def eY:RFn:=⟨2,78,(SR [OP 2 (.box 24 (.t 0)),OP 3 (.box 6 (.t 1)),OP 4 (.alloc ZS)] [2,3,4] (.seq (SR [FA 6 0 3,LD 7 6] [2,3,4,7] (.blk 0 (SR [BI 9 .eql 7 0,MV 8 9] [2,3,4,7,8] (.cond (.t 8) (SR [LT 10 24 2,FA 11 1 3,LD 12 11,OP 13 (.call 71 [.t 10,.t 12]),SA 24 4 13] [4] .ret) (SR [BI 15 .eql 7 1,MV 14 15] [2,3,4,7,14] (.cond (.t 14) (SR [LT 16 24 2,FA 17 2 3,LD 18 17,OP 19 (.call 72 [.t 16,.t 18]),SA 24 4 19] [4] .ret) (SR [BI 21 .eql 7 2,MV 20 21] [2,3,4,7,20] (.cond (.t 20) (SR [FA 22 5 3,LD 23 22,OP 24 (.len (.t 23)),BI 25 .eql 24 0] [2,3,4,25] (.cond (.t 25) (SR [LT 26 24 2,FA 27 2 3,LD 28 27,OP 29 (.call 73 [.t 26,.t 28]),SA 24 4 29] [4] .ret) .skip)) (SR [BI 31 .eql 7 3,MV 30 31] [2,3,4,30] (.cond (.t 30) (.seq (SR [FA 32 5 3,LD 33 32,OP 34 (.len (.t 33)),BI 35 .gtr 34 0] [2,3,4,35] (.cond (.t 35) (SR [LT 36 24 2,SA 24 4 36] [4] .ret) .skip)) (.seq (SR [FA 37 3 3,LD 38 37,OP 39 (.bin .eql (.t 38) (.c (.int .u8 63))),MV 40 39,FG 41 2 3 40 true,LG 42 41 40 true,OG 43 (.bin .eql (.t 42) (.c (.int .u8 104))) 40 true,MG 44 43 40 true,FG 45 2 3 44 false,LG 46 45 44 false,OG 47 (.bin .eql (.t 46) (.c (.int .u8 108))) 44 false,OG 48 (.pick (.t 44) (.c (.bool true)) (.t 47)) 40 true,OP 49 (.pick (.t 40) (.t 48) (.c (.bool false)))] [2,3,4,49] (.cond (.t 49) (.seq (SR [OP 5 (.mov (.c (.int .i64 0)))] [2,3,4,5] (.blk 1 (.loop wV))) (SR [LT 67 24 2,SA 24 4 67] [4] .ret)) .skip)) (SR [FA 68 3 3,LD 69 68,OP 70 (.bin .eql (.t 69) (.c (.int .u8 0)))] [2,3,4,70] (.cond (.t 70) (SR [LT 71 24 2,FA 72 2 3,LD 73 72,FA 74 4 3,LD 75 74,OP 76 (.call 75 [.t 71,.t 73,.t 75]),SA 24 4 76] [4] .ret) .skip)))) .skip)))))))))) (SR [LT 77 24 2,SA 24 4 77] [4] .ret))),[.c 4 true 24]⟩
theorem gh:aK PG.P (aA PG.P 36 eY) 36=some eY:=by kernel_rfl
theorem acF {sz2:Nat}{sk2:SK}{is:List Int}{r b pv:Int}(hr:-2147483648<=r/\r<=2147483647)(hs:sz=1\/ps=[])(hl:ps.length<=1000000)(hps:∀k∈ps,0<=k/\k<=65535)(ok:aR s)(hv:aJ s p v)
  (h:∀T' v',ax T T' []->aJ (doF s k r b pv ps is) (doP p k b is) v'->K v' T'):aj PG 36 [v,acD k r b pv (.sl sz (af .i64 ps) sk) (.sl sz2 (af .u8 is) sk2)] T K:=by
 obtain ⟨z1,z2,z3,k1,k2,k3,m,pr,d1,d2,d3,sv,rfl⟩:=hv
 obtain ⟨o1,o2,o3⟩:=sv.pa.one
 have yI:DV.one (.sl sz2 (af .u8 is) sk2)=true:=rfl
 have hli:(af .u8 is).length=is.length:=by simp[af]
 have hlr:(af .i64 ps).length=ps.length:=by simp[af]
 have hne:T.length+2≠T.length:=by omega
 have aeG:T.length+2≠T.length+1:=by omega
 have ac9:T.length+1≠T.length:=by omega
 have eP:∀{k:Int},k≠2->doP p k b is=p:=fun h=>by unfold doP;rw[if_neg (fun e=>h e.1)]
 unfold acD
 unfold doF at h
 rcases Decidable.em (k=0) with c0 | c0
 ·rw[if_pos c0,eP (by omega)] at h
  unfold scD
  refine aj.aE FOk.nil gh (by simp[eY]) ?_
  unfold eY
  dsimp only
  simp -implicitDefEqProofs -dsimp only[ah,o1,o2,o3,yI,hli,eq_true c0,vcS,↓vcQ,simprocAttr]
  refine Qc (s:=s) (p:=p) hr ok (aJ.of sv) fun T1 v' g1 hv'=>?_
  obtain ⟨y1,y2,y3,j1,j2,j3,m',pr',e1,e2,e3,sv',rfl⟩:=hv'
  obtain ⟨p1,p2,p3⟩:=sv'.pa.one
  unfold scD
  have hb2:=g1.at (bl T [_,_,some (Ob.box _)] 2) (by simp)
  simp -implicitDefEqProofs -dsimp only[ah,ai hb2,p1,p2,p3,vcS,↓vcQ,simprocAttr]
  have kk:ax T T1 []:=(ax.app T _ []).new g1 (by simp)
  exact gI (kk.put (Dd.ge (by omega)) _) fun q=>h _ _ q (aJ.of (s:=je s r) (p:=p) sv')
 rw[if_neg c0] at h
 rcases Decidable.em (k=1) with c1 | c1
 ·rw[if_pos c1,eP (by omega)] at h
  unfold scD
  refine aj.aE FOk.nil gh (by simp[eY]) ?_
  unfold eY
  dsimp only
  simp -implicitDefEqProofs -dsimp only[ah,o1,o2,o3,yI,hli,eq_false c0,eq_true c1,vcS,↓vcQ,simprocAttr]
  refine Jb (s:=s) (p:=p) ok (aJ.of sv) fun T1 v' g1 hv'=>?_
  obtain ⟨y1,y2,y3,j1,j2,j3,m',pr',e1,e2,e3,sv',rfl⟩:=hv'
  obtain ⟨p1,p2,p3⟩:=sv'.pa.one
  unfold scD
  have hb2:=g1.at (bl T [_,_,some (Ob.box _)] 2) (by simp)
  simp -implicitDefEqProofs -dsimp only[ah,ai hb2,p1,p2,p3,vcS,↓vcQ,simprocAttr]
  have kk:ax T T1 []:=(ax.app T _ []).new g1 (by simp)
  exact gI (kk.put (Dd.ge (by omega)) _) fun q=>h _ _ q (aJ.of (s:=xD s b) (p:=p) sv')
 rw[if_neg c1] at h
 rcases Decidable.em (k=2) with c2 | c2
 ·rcases Decidable.em (is=[]) with e | e
  ·have e':(is.length:Int)=0:=by rw[e];rfl
   rw[if_pos ⟨c2,e⟩,show doP p k b is=mI b p by unfold doP;rw[if_pos ⟨c2,e⟩]] at h
   unfold scD
   refine aj.aE FOk.nil gh (by simp[eY]) ?_
   unfold eY
   dsimp only
   simp -implicitDefEqProofs -dsimp only[ah,o1,o2,o3,yI,hli,eq_false c0,eq_false c1,eq_true c2,eq_true e',vcS,↓vcQ,simprocAttr]
   refine MM (s:=s) (p:=p) ok (aJ.of sv) fun T1 v' g1 hv'=>?_
   obtain ⟨y1,y2,y3,j1,j2,j3,m',pr',e1,e2,e3,sv',rfl⟩:=hv'
   obtain ⟨p1,p2,p3⟩:=sv'.pa.one
   unfold scD
   have hb2:=g1.at (bl T [_,_,some (Ob.box _)] 2) (by simp)
   simp -implicitDefEqProofs -dsimp only[ah,ai hb2,p1,p2,p3,vcS,↓vcQ,simprocAttr]
   have kk:ax T T1 []:=(ax.app T _ []).new g1 (by simp)
   exact gI (kk.put (Dd.ge (by omega)) _) fun q=>h _ _ q (aJ.of (s:=jS s b) (p:=mI b p) sv')
  ·have e':¬(is.length:Int)=0:=fun h=>e (List.eq_nil_of_length_eq_zero (by omega))
   rw[if_neg (fun h=>e h.2),if_neg (by omega),if_neg (by omega),show doP p k b is=p by unfold doP;rw[if_neg (fun h=>e h.2)]] at h
   unfold scD
   refine aj.aE FOk.nil gh (by simp[eY]) ?_
   unfold eY
   dsimp only
   simp -implicitDefEqProofs -dsimp only[ah,o1,o2,o3,yI,hli,eq_false c0,eq_false c1,eq_true c2,eq_false e',vcS,↓vcQ,simprocAttr]
   exact h _ _ (ax.app _ _ _) (aJ.of (s:=s) sv)
 rw[if_neg (fun h=>c2 h.1),eP c2] at h
 rcases Decidable.em (k=3) with c3 | c3
 ·rcases Decidable.em (is=[]) with e | e
  ·have e':¬(0:Int)<(is.length:Int):=by rw[e];simp
   rcases Decidable.em (pv=0) with e0 | e0
   ·rw[if_pos ⟨c3,e,e0⟩] at h
    have e63:¬pv=63:=by omega
    unfold scD
    refine aj.aE FOk.nil gh (by simp[eY]) ?_
    unfold eY
    dsimp only
    simp -implicitDefEqProofs -dsimp only[ah,o1,o2,o3,yI,hli,eq_false c0,eq_false c1,eq_false c2,eq_true c3,eq_false e',eq_true e0,eq_false e63,vcS,↓vcQ,simprocAttr]
    refine aat (s:=s) (p:=p) ok (aJ.of sv) hs hl hps fun T1 v' g1 hv'=>?_
    obtain ⟨y1,y2,y3,j1,j2,j3,m',pr',e1,e2,e3,sv',rfl⟩:=hv'
    obtain ⟨p1,p2,p3⟩:=sv'.pa.one
    unfold scD
    have hb2:=g1.at (bl T [_,_,some (Ob.box _)] 2) (by simp)
    simp -implicitDefEqProofs -dsimp only[ah,ai hb2,p1,p2,p3,vcS,↓vcQ,simprocAttr]
    have kk:ax T T1 []:=(ax.app T _ []).new g1 (by simp)
    exact gI (kk.put (Dd.ge (by omega)) _) fun q=>h _ _ q (aJ.of (s:=eS s b ps) (p:=p) sv')
   ·rw[if_neg (fun h=>e0 h.2.2)] at h
    rcases Decidable.em (pv=63) with e63 | e63
    ·rw[if_pos ⟨c3,e,e63⟩] at h
     rcases Decidable.em (b=104\/b=108) with eb | eb
     ·rw[if_pos eb] at h
      have hon:decide (b=104)=decide (b=104):=rfl
      have f108:¬b=104->b=108:=fun h=>eb.resolve_left h
      rcases Decidable.em (b=104) with B8 | B8
      ·rw[decide_eq_true B8] at h
       unfold scD
       refine aj.aE FOk.nil gh (by simp[eY]) ?_
       unfold eY
       dsimp only
       simp -implicitDefEqProofs -dsimp only[ah,o1,o2,o3,yI,hli,eq_false c0,eq_false c1,eq_false c2,eq_true c3,eq_false e',eq_true e63,eq_true B8,vcS,↓vcQ,simprocAttr]
       refine bk.inv FOk.nil (S:=fun σ:Nat × ay=>⟨[(2,.ptr T.length 0 0),(3,.ptr (T.length+1) 0 0),(4,.ptr (T.length+2) 0 0),(5,.int .i64 σ.1)],σ.2⟩)
        (I:=fun σ=>σ.1<=ps.length/\ax T σ.2 []/\(∃v',aJ ((ps.take σ.1).foldl (eD true) s) p v'/\∃cs,v'=.agg cs/\σ.2[T.length]?=some (some (.box cs)))/\σ.2[T.length+1]?=some (some (.box [.int .i64 k,.int .i32 r,.int .u8 b,.int .u8 pv,.sl sz (af .i64 ps) sk,.sl sz2 (af .u8 is) sk2]))/\σ.2[T.length+2]?=some (some (.box lp))) (μ:=fun σ=>ps.length-σ.1) (0,T++ [some (.box (scD s z1 z2 z3 k1 k2 k3 m pr d1 d2 d3)),_,_]) ⟨by simp,ax.app _ _ _,⟨_,aJ.of (s:=s) (k1:=k1) (k2:=k2) (k3:=k3) sv,_,rfl,aZ T [_,_] _⟩,bl T [_,_,_] 1,bl T [_,_,_] 2⟩ ?_ ?_
       ·simp -implicitDefEqProofs -dsimp only[an,vcS,↓vcQ,simprocAttr]
        exact aH _
       ·intro ⟨i,A⟩ ⟨i1,i2,⟨v0,i3,cs,ecs,i4⟩,i5,i6⟩
        dsimp only at i1 i2 i3 i4 i5 i6 ⊢
        subst ecs
        have oki:=qF (on:=true) (ps:=ps.take i) ok
        have hst:=fun hi=>tO (on:=true) (s:=s) (i:=i) (ps:=ps) hi
        have eV:ps.length<=i->(ps.take i).foldl (eD true) s=ps.foldl (eD true) s:=fun hh=>by rw[List.take_of_length_le hh]
        generalize (ps.take i).foldl (eD true) s=a at *
        have i3':=i3
        obtain ⟨y1,y2,y3,j1,j2,j3,m',pr',f1,f2,f3,sv',ev⟩:=i3
        obtain ⟨p1,p2,p3⟩:=sv'.pa.one
        obtain rfl:=DV.agg.inj ev
        unfold scD at i4
        unfold lp at i6
        have w1:IntKind.i64.wrap ((i:Int)+1)=((i+1:Nat):Int):=by rw[aO (by omega) (by omega)];omega
        unfold wV
        rcases Nat.lt_or_ge i ps.length with hlt | hge
        ·have hii:(i:Int)<ps.length:=by omega
         have i0:(0:Int)<=i:=by omega
         have hsz:sz=1:=by rcases hs with h | h;exact h;subst h;simp at hlt
         subst hsz
         have hg:(af .i64 ps)[i]?=some [.int .i64 (ps.getD i 0)]:=by simp[af,hlt]
         have hst:=hst hlt
         generalize ps.getD i 0=c at *
         simp -implicitDefEqProofs -dsimp only[ah,ai i4,ai i5,p1,p2,p3,eq_true B8,hii,i0,hg,hlr,w1,Nat.zero_add,an,vcS,↓vcQ,simprocAttr]
         refine LM (s:=a) (p:=p) (on:=true) oki (aJ.of sv') fun T1 v' g1 hv'=>?_
         have hv2:=hv'
         obtain ⟨y1,y2,y3,j1,j2,j3,m'',aaX,e1,e2,e3,sv2,rfl⟩:=hv'
         obtain ⟨q1,q2,q3⟩:=sv2.pa.one
         unfold scD at hv2 ⊢
         have g4:=g1.at i4 (by simp)
         simp -implicitDefEqProofs -dsimp only[ah,ai g4,q1,q2,q3,w1,an,vcS,↓vcQ,simprocAttr]
         exact ⟨(i+1,_),⟨rfl,aH _⟩,⟨hlt,(i2.new g1 (by simp)).put (Dd.ge (Nat.le_refl _)) _,⟨_,by dsimp only;rw[hst];exact hv2,_,rfl,bZ g4 _⟩,bn (g1.at i5 (by simp)) _ ac9,bn (g1.at i6 (by simp)) _ hne⟩,by dsimp only;omega⟩
        ·have hii:¬(i:Int)<ps.length:=by omega
         simp -implicitDefEqProofs -dsimp only[ah,ai i4,ai i5,ai i6,p1,p2,p3,hii,hlr,an,vcS,↓vcQ,simprocAttr]
         rw[<-eV hge] at h
         exact gI (i2.put (o:=T.length+2) (Dd.ge (by omega)) _) fun q=>h _ _ q (aJ.of (s:=a) sv')
      ·have ZM:=f108 B8
       rw[decide_eq_false B8] at h
       unfold scD
       refine aj.aE FOk.nil gh (by simp[eY]) ?_
       unfold eY
       dsimp only
       simp -implicitDefEqProofs -dsimp only[ah,o1,o2,o3,yI,hli,eq_false c0,eq_false c1,eq_false c2,eq_true c3,eq_false e',eq_true e63,eq_false B8,eq_true ZM,vcS,↓vcQ,simprocAttr]
       refine bk.inv FOk.nil (S:=fun σ:Nat × ay=>⟨[(2,.ptr T.length 0 0),(3,.ptr (T.length+1) 0 0),(4,.ptr (T.length+2) 0 0),(5,.int .i64 σ.1)],σ.2⟩)
        (I:=fun σ=>σ.1<=ps.length/\ax T σ.2 []/\(∃v',aJ ((ps.take σ.1).foldl (eD false) s) p v'/\∃cs,v'=.agg cs/\σ.2[T.length]?=some (some (.box cs)))/\σ.2[T.length+1]?=some (some (.box [.int .i64 k,.int .i32 r,.int .u8 b,.int .u8 pv,.sl sz (af .i64 ps) sk,.sl sz2 (af .u8 is) sk2]))/\σ.2[T.length+2]?=some (some (.box lp))) (μ:=fun σ=>ps.length-σ.1) (0,T++ [some (.box (scD s z1 z2 z3 k1 k2 k3 m pr d1 d2 d3)),_,_]) ⟨by simp,ax.app _ _ _,⟨_,aJ.of (s:=s) (k1:=k1) (k2:=k2) (k3:=k3) sv,_,rfl,aZ T [_,_] _⟩,bl T [_,_,_] 1,bl T [_,_,_] 2⟩ ?_ ?_
       ·simp -implicitDefEqProofs -dsimp only[an,vcS,↓vcQ,simprocAttr]
        exact aH _
       ·intro ⟨i,A⟩ ⟨i1,i2,⟨v0,i3,cs,ecs,i4⟩,i5,i6⟩
        dsimp only at i1 i2 i3 i4 i5 i6 ⊢
        subst ecs
        have oki:=qF (on:=false) (ps:=ps.take i) ok
        have hst:=fun hi=>tO (on:=false) (s:=s) (i:=i) (ps:=ps) hi
        have eV:ps.length<=i->(ps.take i).foldl (eD false) s=ps.foldl (eD false) s:=fun hh=>by rw[List.take_of_length_le hh]
        generalize (ps.take i).foldl (eD false) s=a at *
        have i3':=i3
        obtain ⟨y1,y2,y3,j1,j2,j3,m',pr',f1,f2,f3,sv',ev⟩:=i3
        obtain ⟨p1,p2,p3⟩:=sv'.pa.one
        obtain rfl:=DV.agg.inj ev
        unfold scD at i4
        unfold lp at i6
        have w1:IntKind.i64.wrap ((i:Int)+1)=((i+1:Nat):Int):=by rw[aO (by omega) (by omega)];omega
        unfold wV
        rcases Nat.lt_or_ge i ps.length with hlt | hge
        ·have hii:(i:Int)<ps.length:=by omega
         have i0:(0:Int)<=i:=by omega
         have hsz:sz=1:=by rcases hs with h | h;exact h;subst h;simp at hlt
         subst hsz
         have hg:(af .i64 ps)[i]?=some [.int .i64 (ps.getD i 0)]:=by simp[af,hlt]
         have hst:=hst hlt
         generalize ps.getD i 0=c at *
         simp -implicitDefEqProofs -dsimp only[ah,ai i4,ai i5,p1,p2,p3,eq_false B8,eq_true ZM,hii,i0,hg,hlr,w1,Nat.zero_add,an,vcS,↓vcQ,simprocAttr]
         refine LM (s:=a) (p:=p) (on:=false) oki (aJ.of sv') fun T1 v' g1 hv'=>?_
         have hv2:=hv'
         obtain ⟨y1,y2,y3,j1,j2,j3,m'',aaX,e1,e2,e3,sv2,rfl⟩:=hv'
         obtain ⟨q1,q2,q3⟩:=sv2.pa.one
         unfold scD at hv2 ⊢
         have g4:=g1.at i4 (by simp)
         simp -implicitDefEqProofs -dsimp only[ah,ai g4,q1,q2,q3,w1,an,vcS,↓vcQ,simprocAttr]
         exact ⟨(i+1,_),⟨rfl,aH _⟩,⟨hlt,(i2.new g1 (by simp)).put (Dd.ge (Nat.le_refl _)) _,⟨_,by dsimp only;rw[hst];exact hv2,_,rfl,bZ g4 _⟩,bn (g1.at i5 (by simp)) _ ac9,bn (g1.at i6 (by simp)) _ hne⟩,by dsimp only;omega⟩
        ·have hii:¬(i:Int)<ps.length:=by omega
         simp -implicitDefEqProofs -dsimp only[ah,ai i4,ai i5,ai i6,p1,p2,p3,hii,hlr,an,vcS,↓vcQ,simprocAttr]
         rw[<-eV hge] at h
         exact gI (i2.put (o:=T.length+2) (Dd.ge (by omega)) _) fun q=>h _ _ q (aJ.of (s:=a) sv')
     ·rw[if_neg eb] at h
      have B8:¬b=104:=by omega
      have ZM:¬b=108:=by omega
      unfold scD
      refine aj.aE FOk.nil gh (by simp[eY]) ?_
      unfold eY
      dsimp only
      simp -implicitDefEqProofs -dsimp only[ah,o1,o2,o3,yI,hli,eq_false c0,eq_false c1,eq_false c2,eq_true c3,eq_false e',eq_true e63,eq_false e0,eq_false B8,eq_false ZM,vcS,↓vcQ,simprocAttr]
      exact h _ _ (ax.app _ _ _) (aJ.of (s:=s) sv)
    ·rw[if_neg (fun h=>e63 h.2.2)] at h
     unfold scD
     refine aj.aE FOk.nil gh (by simp[eY]) ?_
     unfold eY
     dsimp only
     simp -implicitDefEqProofs -dsimp only[ah,o1,o2,o3,yI,hli,eq_false c0,eq_false c1,eq_false c2,eq_true c3,eq_false e',eq_false e63,eq_false e0,vcS,↓vcQ,simprocAttr]
     exact h _ _ (ax.app _ _ _) (aJ.of (s:=s) sv)
  ·have e':(0:Int)<(is.length:Int):=by
    have:is.length≠0:=fun h=>e (List.eq_nil_of_length_eq_zero h)
    omega
   rw[if_neg (fun h=>e h.2.1),if_neg (fun h=>e h.2.1)] at h
   unfold scD
   refine aj.aE FOk.nil gh (by simp[eY]) ?_
   unfold eY
   dsimp only
   simp -implicitDefEqProofs -dsimp only[ah,o1,o2,o3,yI,hli,eq_false c0,eq_false c1,eq_false c2,eq_true c3,eq_true e',vcS,↓vcQ,simprocAttr]
   exact h _ _ (ax.app _ _ _) (aJ.of (s:=s) sv)
 ·rw[if_neg (fun h=>c3 h.1),if_neg (fun h=>c3 h.1)] at h
  unfold scD
  refine aj.aE FOk.nil gh (by simp[eY]) ?_
  unfold eY
  dsimp only
  simp -implicitDefEqProofs -dsimp only[ah,o1,o2,o3,yI,hli,eq_false c0,eq_false c1,eq_false c2,eq_false c3,vcS,↓vcQ,simprocAttr]
  exact h _ _ (ax.app _ _ _) (aJ.of (s:=s) sv)
def xS:RC:=(.seq (SR [MV 25 8,MV 26 7,OP 27 (.len (.t 26)),BT 28 .lss 25 27] [1,2,4,5,6,7,8,28] (.cond (.t 28) .skip (.ext 2))) (.seq (.blk 3 (.cJ (.take (LT 31 24 2) [] (.take (MV 32 7) [] (.take (MV 33 8) [] (.take (OP 34 (.aT 6 (.t 32) (.t 33))) [] (.take (LT 35 6 34) [] (.mid (OP 36 (.call 36 [.t 31,.t 35])) (.op (SA 24 2 36) .done))))))) 0 [1,2,4,5,6,7,8])) (.reg [MV 29 8,BI 30 .add 29 1,MV 8 30] 0 [1,2,4,5,6,7,8])))
def xR:RC:=(.seq (SR [MV 9 5,MV 10 1,OP 11 (.len (.t 10)),BT 12 .lss 9 11] [1,2,4,5,12] (.cond (.t 12) .skip (.ext 0))) (.seq (.blk 1 (.seq (.cJ (.take (FA 16 19 2) [] (.take (LT 17 5 16) [] (.take (MV 18 1) [] (.take (MV 19 5) [] (.take (OP 20 (.aT 1 (.t 18) (.t 19))) [] (.take (LD 21 20) [] (.alt (.op (OP 22 (.call 35 [.t 17,.t 21])) (.take (MV 15 22) [] (.take (OP 23 (.ext (.t 15) 0)) [] (.take (OP 24 (.ext (.t 15) 1)) [] (.op (OP 6 (.alloc [.int .i64 0,.int .u8 0,.sl 0 [] .nil,.sl 0 [] .nil,.sl 0 [] .nil])) (.op (SA 5 6 23) (.take (MV 7 24) [] .done))))))) (.op (OP 6 (.alloc [.int .i64 0,.int .u8 0,.sl 0 [] .nil,.sl 0 [] .nil,.sl 0 [] .nil])) (.op (OP 22 (.call 35 [.t 17,.t 21])) (.take (MV 15 22) [] (.take (OP 23 (.ext (.t 15) 0)) [] (.take (OP 24 (.ext (.t 15) 1)) [] (.op (SA 5 6 23) (.take (MV 7 24) [] .done)))))))))))))) 0 [1,2,4,5,6,7]) (.seq (SR [OP 8 (.mov (.c (.int .i64 0)))] [1,2,4,5,6,7,8] (.blk 2 (.loop xS))) (.reg [LT 37 5 6,FA 38 19 2,SA 5 38 37] 0 [1,2,4,5])))) (.reg [MV 13 5,BI 14 .add 13 1,MV 5 14] 0 [1,2,4,5])))
def uJ:RFn:=⟨2,40,(SR [OP 2 (.box 24 (.t 0)),OP 4 (.alloc ZS)] [1,2,4] (.seq (SR [OP 5 (.mov (.c (.int .i64 0)))] [1,2,4,5] (.blk 0 (.loop xR))) (SR [LT 39 24 2,SA 24 4 39] [4] .ret))),[.c 4 true 24]⟩
theorem Gx:aK PG.P (aA PG.P 14 uJ) 14=some uJ:=by kernel_rfl
theorem PX (args:List DV)(s:aS)(hs:CB ie qP args=some s)(hp:s.pre):av PG 35 args fun n r os=>r=(s.res n).1/\os=(s.res n).2:=
 Sd (g:=ie) (q:=qP) (fun p b h=>RP h.1 h.2) args s hs hp
def TXf:FL:=[(35,.o (CB ie qP))]
theorem Ll:FOk PG (tab TXf):=FOk.cons FOk.nil PX
theorem ace (args:List DV):tab TXf 35 args=(CB ie qP args).map .o:=ak _
theorem Vt (args:List DV):tab TXf 36 args=none:=ak _
set_option maxHeartbeats 1000000 in
theorem LN {l:List Int}(hF:ScF (s,p))(hv:aJ s p v)(hs:sz=1\/l=[])(hk:inK .u8 l)(hl:l.length<=1000000)
  (h:∀T' v',ax T T' []->aJ (l.foldl eJ (s,p)).1 (l.foldl eJ (s,p)).2 v'->K v' T'):aj PG 14 [v,.sl sz (af .u8 l) sk] T K:=by
 obtain ⟨z1,z2,z3,k1,k2,k3,m,pr,d1,d2,d3,sv,rfl⟩:=hv
 obtain ⟨o1,o2,o3⟩:=sv.pa.one
 have hne:T.length+1≠T.length:=by omega
 have hlr:(af .u8 l).length=l.length:=by simp[af]
 unfold scD
 refine aj.aE Ll Gx (by simp[uJ]) ?_
 unfold uJ
 dsimp only
 simp -implicitDefEqProofs -dsimp only[ah,Vt,o1,o2,o3,vcS,↓vcQ,simprocAttr]
 refine bk.inv Ll (S:=fun σ:Nat × ay=>⟨[(1,.sl sz (af .u8 l) sk),(2,.ptr T.length 0 0),(4,.ptr (T.length+1) 0 0),(5,.int .i64 σ.1)],σ.2⟩)
  (I:=fun σ=>σ.1<=l.length/\ax T σ.2 []/\(∃v',aJ ((l.take σ.1).foldl eJ (s,p)).1 ((l.take σ.1).foldl eJ (s,p)).2 v'/\∃cs,v'=.agg cs/\σ.2[T.length]?=some (some (.box cs)))/\σ.2[T.length+1]?=some (some (.box lp))) (μ:=fun σ=>l.length-σ.1) (0,T++ [some (.box (scD s z1 z2 z3 k1 k2 k3 m pr d1 d2 d3)),some (.box lp)]) ⟨by simp,ax.app _ _ _,⟨_,aJ.of (s:=s) (k1:=k1) (k2:=k2) (k3:=k3) sv,_,rfl,aZ T [_] _⟩,bl T [_,_] 1⟩ ?_ ?_
 ·simp -implicitDefEqProofs -dsimp only[an,vcS,↓vcQ,simprocAttr]
  exact aH _
 ·intro ⟨i,A⟩ ⟨i1,i2,⟨v0,i3,cs,ecs,i4⟩,i5⟩
  dsimp only at i1 i2 i3 i4 i5 ⊢
  subst ecs
  have hby:∀c∈l,0<=c/\c<=255:=fun c hc=>by have:=hk.2 c hc;have:=WD;omega
  have fo:=AJ (l:=l.take i) (x:=(s,p)) hF fun c hc=>hby c (List.mem_of_mem_take hc)
  have hst:=fun hi=>Dy (x:=(s,p)) (i:=i) (l:=l) hi
  have eV:l.length<=i->(l.take i).foldl eJ (s,p)=l.foldl eJ (s,p):=fun hh=>by rw[List.take_of_length_le hh]
  generalize (l.take i).foldl eJ (s,p)=x at *
  obtain ⟨x1,x2⟩:=x
  dsimp only at i3 fo hst
  obtain ⟨y1,y2,y3,j1,j2,j3,m',pr',f1,f2,f3,sv',ev⟩:=i3
  obtain ⟨p1,p2,p3⟩:=sv'.pa.one
  obtain rfl:=DV.agg.inj ev
  have i4':=i4
  unfold scD at i4
  have i5':=i5
  unfold lp at i5
  have w1:IntKind.i64.wrap ((i:Int)+1)=((i+1:Nat):Int):=by rw[aO (by omega) (by omega)];omega
  unfold xR
  rcases Nat.lt_or_ge i l.length with hlt | hge
  ·have hii:(i:Int)<l.length:=by omega
   have i0:(0:Int)<=i:=by omega
   have hsz:sz=1:=by rcases hs with h | h;exact h;subst h;simp at hlt
   subst hsz
   have hg:(af .u8 l)[i]?=some [.int .u8 (l.getD i 0)]:=by simp[af,hlt]
   have hb:=hby (l.getD i 0) (by simp[List.getD_eq_getElem?_getD,hlt])
   have hst:=hst hlt
   generalize l.getD i 0=c at *
   have pa':=sv'.pa
   have hpe:(⟨m',pr',aG f1,aG f2,aG f3⟩:Pa)=x2:=by rw[pa'.m,pa'.pr,pa'.e1,pa'.e2,pa'.e3]
   have q1:=pa'.i1
   have q2:=pa'.i2
   have q3:=pa'.i3
   have hq:qP x2 c:=⟨fo.pk,hb⟩
   have heq:ie x2 c=dy x2 c:=step_eq fo.rt fo.pk hb
   simp -implicitDefEqProofs -dsimp only[ah,ai i4,ace,LH,hpe,heq,q1,q2,q3,hq,wZ,hii,i0,hg,hlr,Nat.zero_add,p1,p2,p3,iZ,vcS,↓vcQ,simprocAttr]
   have TA:=CL fo.pk hb
   have hpk:=rD fo.pk hb
   have Tq:(l.take (i+1)).foldl eJ (s,p)=((dy x2 c).2.foldl ug x1,(dy x2 c).1):=hst
   have hlen:=CJ x2 c
   generalize dy x2 c=st at *
   obtain ⟨y,iY⟩:=st
   dsimp only at TA hpk Tq hlen ⊢
   have hal:(cz iY).length=iY.length:=iZ _
   have lA:=eI i4'
   have lA1:=eI i5'
   refine bk.inv Ll (S:=fun σ:Nat × ay=>⟨[(1,.sl 1 (af .u8 l) sk),(2,.ptr T.length 0 0),(4,.ptr (T.length+1) 0 0),(5,.int .i64 i),(6,.ptr A.length 0 0),(7,.sl 6 (cz iY) .any),(8,.int .i64 σ.1)],σ.2⟩)
    (I:=fun σ=>σ.1<=iY.length/\ax T σ.2 []/\(∃pp v',aJ ((iY.take σ.1).foldl ug x1) pp v'/\∃cs,v'=.agg cs/\σ.2[T.length]?=some (some (.box cs)))/\σ.2[T.length+1]?=some (some (.box lp))/\σ.2[A.length]?=some (some (.box [.int .i64 y.m,.int .u8 y.pr,.sl 1 (af .i64 y.P) .any,.sl 1 (af .u8 y.I) .any,.sl 1 (af .u8 y.U) .any]))) (μ:=fun σ=>iY.length-σ.1) (0,A++ [some (.box [.int .i64 y.m,.int .u8 y.pr,.sl 1 (af .i64 y.P) .any,.sl 1 (af .u8 y.I) .any,.sl 1 (af .u8 y.U) .any])]) ⟨by simp,i2.dU _,⟨_,_,aJ.of (s:=x1) (p:=x2) (k1:=j1) (k2:=j2) (k3:=j3) sv',_,rfl,hO i4' _⟩,hO i5' _,aZ _ _ _⟩ ?_ ?_
   ·simp -implicitDefEqProofs -dsimp only[an,vcS,↓vcQ,simprocAttr]
   ·intro ⟨j,B⟩ ⟨u1,u2,⟨pp,v1,u3,ds,eds,u4⟩,u5,u6⟩
    dsimp only at u1 u2 u3 u4 u5 u6 ⊢
    subst eds
    have aok:=wm (l:=iY.take j) fo.ok
    have w2:IntKind.i64.wrap ((j:Int)+1)=((j+1:Nat):Int):=by rw[aO (by omega) (by omega)];omega
    obtain ⟨b1,b2,b3,h1,h2,h3,m2,pr2,g1,g2,g3,sw,ew⟩:=u3
    obtain ⟨r1,r2,r3⟩:=sw.pa.one
    obtain rfl:=DV.agg.inj ew
    have u4':=u4
    unfold scD at u4
    unfold xS
    rcases Nat.lt_or_ge j iY.length with jlt | jge
    ·obtain ⟨a,ha⟩:∃a,iY[j]?=some a:=⟨_,List.getElem?_eq_getElem jlt⟩
     have hao:=TA a (List.mem_of_getElem? ha)
     have jj:(j:Int)<iY.length:=by omega
     have j0:(0:Int)<=j:=by omega
     obtain ⟨sa,ka,ea,hsa⟩:∃sa ka,oSl .i64 a.ps=.sl sa (af .i64 (osL a.ps)) ka/\(sa=1\/osL a.ps=[]):=by
      cases a.ps with
      | none=>exact ⟨0,.nil,rfl,.inr rfl⟩
      | some l=>exact ⟨1,.any,rfl,.inl rfl⟩
     obtain ⟨sb,kb,eb⟩:∃sb kb,oSl .u8 a.is=.sl sb (af .u8 (osL a.is)) kb:=by
      cases a.is with
      | none=>exact ⟨0,.nil,rfl⟩
      | some l=>exact ⟨1,.any,rfl⟩
     have hrow:(cz iY)[j]?=some [.int .i64 a.k,.int .i32 a.r,.int .u8 a.b,.int .u8 a.p,.sl sa (af .i64 (osL a.ps)) ka,.sl sb (af .u8 (osL a.is)) kb]:=by
      rw[<-ea,<-eb]
      simp[cz,yt,ha]
     simp -implicitDefEqProofs -dsimp only[ah,ai u4,Vt,hrow,hal,jj,j0,r1,r2,r3,Nat.zero_add,vcS,↓vcQ,simprocAttr]
     refine acF (s:=(iY.take j).foldl ug x1) (p:=pp) ⟨by have:=hao.1;omega,by have:=hao.1;omega⟩ hsa (by have:=hao.2.1;omega) hao.2.2 aok (aJ.of sw) fun T1 v' c1 hv'=>?_
     have hv2:=hv'
     obtain ⟨y1,y2,y3,j1,j2,j3,m'',aaX,e1,e2,e3,sv2,rfl⟩:=hv'
     obtain ⟨q1,q2,q3⟩:=sv2.pa.one
     unfold scD at hv2 ⊢
     have g4:=c1.at u4 (by simp)
     simp -implicitDefEqProofs -dsimp only[ah,ai g4,Vt,q1,q2,q3,w2,an,vcS,↓vcQ,simprocAttr]
     exact ⟨(j+1,_),⟨rfl,aH _⟩,⟨jlt,(u2.new c1 (by simp)).put (Dd.ge (Nat.le_refl _)) _,⟨_,_,by dsimp only;rw[DN ha];exact hv2,_,rfl,bZ g4 _⟩,bn (c1.at u5 (by simp)) _ hne,bn (c1.at u6 (by simp)) _ (by omega)⟩,by dsimp only;omega⟩
    ·have jj:¬(j:Int)<iY.length:=by omega
     obtain rfl:j=iY.length:=by omega
     rw[List.take_length] at u4' sw
     simp -implicitDefEqProofs -dsimp only[ah,ai u4,ai u6,hal,jj,w1,r1,r2,r3,an,vcS,↓vcQ,simprocAttr]
     refine ⟨(i+1,B.set T.length (some (.box (scD (iY.foldl ug x1) b1 b2 b3 h1 h2 h3 y.m y.pr (.sl 1 (af .i64 y.P) .any) (.sl 1 (af .u8 y.I) .any) (.sl 1 (af .u8 y.U) .any))))),⟨rfl, ?_⟩,⟨hlt,u2.put (Dd.ge (Nat.le_refl _)) _,⟨_, ?_,_,rfl,bZ u4' _⟩,bn u5 _ hne⟩,by dsimp only;omega⟩
     ·rw[List.take_length];exact aH _
     ·dsimp only
      rw[Tq]
      obtain ⟨o1',o2',o3',_⟩:=hpk
      exact aJ.of ⟨sw.z1,sw.z2,sw.z3,{ m:=rfl,pr:=rfl,i1:=aQ (.inl rfl) o1',i2:=aQ (.inl rfl) o2',i3:=aQ (.inl rfl) o3',e1:=aL ..,e2:=aL ..,e3:=aL ..}⟩
  ·have hii:¬(i:Int)<l.length:=by omega
   simp -implicitDefEqProofs -dsimp only[ah,ai i4,ai i5,p1,p2,p3,hii,hlr,an,vcS,↓vcQ,simprocAttr]
   rw[<-eV hge] at h
   exact gI (i2.put (o:=T.length+1) (Dd.ge (by omega)) _) fun q=>h _ _ q (aJ.of (s:=x1) (p:=x2) sv')
end
end Go.Proofs.YtjmnbpilnneonaaGreatDoor
