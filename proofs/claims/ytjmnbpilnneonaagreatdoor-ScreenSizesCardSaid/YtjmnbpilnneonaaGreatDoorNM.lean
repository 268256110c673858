/- Texts R34 in one. -/
import Derived.Test.YtjmnbpilnneonaaGreatDoorNL
set_option linter.unusedVariables false
set_option linter.unusedSimpArgs false
set_option maxRecDepth 10000
namespace Go.Proofs.YtjmnbpilnneonaaGreatDoor
open Go.RowKit
noncomputable def ae2:RC:=(SR [MV 76 5,MV 77 6,OP 78 (.mm false (.t 77) (.c (.int .i64 3))),OP 79 (.call 16 [.t 76,.t 78]),MV 75 79,OP 80 (.ext (.t 75) 0),OP 81 (.ext (.t 75) 1),OP 20 (.alloc ZS),SA 24 20 80,MV 21 81] [3,5,6,15,21] (SR [MV 83 5,MV 84 6,OP 85 (.mm false (.t 84) (.c (.int .i64 3))),OP 86 (.call 22 [.t 83,.t 85]),MV 82 86,OP 87 (.ext (.t 82) 0),OP 88 (.ext (.t 82) 1),OP 22 (.alloc ZS),SA 24 22 87,MV 23 88] [3,15,21,23] (SR [LT 89 24 15,MV 90 3,OP 91 (.conv (.i2i .i64) (.t 90)),BI 92 .sub 91 3,OP 93 (.call 23 [.t 89,.t 92]),MV 24 93] [3,15,21,23,24] (SR [MV 94 3,OP 95 (.conv (.i2i .i64) (.t 94)),BI 96 .sub 95 3,MV 25 96] [15,21,23,24,25] (SR [MV 97 25,BI 98 .lss 97 0,MV 99 98,MG 100 25 99 false,FG 101 0 15 99 false,LG 102 101 99 false,OG 103 (.bin .geq (.t 100) (.t 102)) 99 false,OP 104 (.pick (.t 99) (.c (.bool true)) (.t 103))] [15,21,23,24,25,104] (.cond (.t 104) (SR [MV 105 21,MV 106 23,BT 107 .eql 105 106,MV 108 107,MG 109 24 108 true,OG 110 (.len (.t 109)) 108 true,OG 111 (.bin .eql (.t 110) (.c (.int .i64 0))) 108 true,OP 112 (.pick (.t 108) (.t 111) (.c (.bool false))),MV 14 112] [14] .ret) (SR [MV 113 21,MV 114 23,BT 115 .eql 113 114,MV 116 115,MG 117 24 116 true,FG 118 2 15 116 true,LG 119 118 116 true,MG 120 25 116 true,FG 121 1 15 116 true,LG 122 121 116 true,OG 123 (.bin .mul (.t 120) (.t 122)) 116 true,MG 124 25 116 true,OG 125 (.bin .add (.t 124) (.c (.int .i64 1))) 116 true,FG 126 1 15 116 true,LG 127 126 116 true,OG 128 (.bin .mul (.t 125) (.t 127)) 116 true,OG 129 (.slice 3 (.t 119) (some (.t 123)) (some (.t 128)) none) 116 true,OG 130 (.call 18 [.t 117,.t 129]) 116 true,OP 131 (.pick (.t 116) (.t 130) (.c (.bool false))),MV 14 131] [14] .ret)))))))
theorem aeZ (E:Prg)(F:dW)(n:Nat)(Q:Exit->St->Prop)(st:St):RC.wp E F n ae2 Q st=WpH E F n ae2 Q st:=ak _
noncomputable def ae7:RFn:=⟨7,132,(SR [MB 14 false] [0,1,2,3,4,5,6] (.seq (SR [OP 26 (.call 8 []),OP 27 (.un .not (.t 26))] [0,1,2,3,4,5,6,27] (.cond (.t 27) (SR [MB 14 false] [14] .ret) .skip)) (.seq (SR [MV 28 2,OP 29 (.len (.t 28)),BI 30 .gtr 29 40] [0,1,2,3,4,5,6,30] (.cond (.t 30) (SR [MB 14 true] [14] .ret) .skip)) (SR [MV 31 0,MV 32 1,MV 33 2,OP 34 (.call 9 [.t 31,.t 32,.t 33]),OP 15 (.alloc ZS),SA 24 15 34] [3,4,5,6,15] (SR [LT 36 24 15,MV 37 3,OP 38 (.bin .rem (.t 37) (.c (.int .u8 9))),OP 39 (.conv (.i2i .i64) (.t 38)),MV 40 4,OP 41 (.bin .rem (.t 40) (.c (.int .u8 12))),OP 42 (.conv (.i2i .i64) (.t 41)),OP 43 (.call 20 [.t 36,.t 39,.t 42]),MV 35 43,OP 44 (.ext (.t 35) 0),OP 45 (.ext (.t 35) 1),OP 16 (.alloc ZS),SA 24 16 44,MV 17 45] [3,4,5,6,15,16,17] (SR [LT 47 24 15,MV 48 3,OP 49 (.bin .rem (.t 48) (.c (.int .u8 9))),OP 50 (.conv (.i2i .i64) (.t 49)),MV 51 4,OP 52 (.bin .rem (.t 51) (.c (.int .u8 12))),OP 53 (.conv (.i2i .i64) (.t 52)),OP 54 (.call 21 [.t 47,.t 50,.t 53]),MV 46 54,OP 55 (.ext (.t 46) 0),OP 56 (.ext (.t 46) 1),OP 18 (.alloc ZS),SA 24 18 55,MV 19 56] [3,5,6,15,16,17,18,19] (.seq (SR [MV 57 17,MV 58 19,BT 59 .neq 57 58,MV 60 59,OG 61 (.load true 24 (.t 16)) 60 false,OG 62 (.load true 24 (.t 18)) 60 false,OG 63 (.call 15 [.t 61,.t 62]) 60 false,OG 64 (.un .not (.t 63)) 60 false,OP 65 (.pick (.t 60) (.c (.bool true)) (.t 64)),MV 66 65,MG 67 19 66 false,OG 68 (.bin .eql (.t 67) (.c (.int .i64 0))) 66 false,MG 69 68 66 false,OG 70 (.load true 24 (.t 16)) 69 true,OG 71 (.call 10 [.t 70]) 69 true,OG 72 (.un .not (.t 71)) 69 true,OG 73 (.pick (.t 69) (.t 72) (.c (.bool false))) 66 false,OP 74 (.pick (.t 66) (.c (.bool true)) (.t 73))] [3,5,6,15,74] (.cond (.t 74) (SR [MB 14 false] [14] .ret) .skip)) ae2))))))),[.t 14]⟩
theorem aff:aK PG.P (aA PG.P 7 ae7) 7=some ae7:=by kernel_rfl
def afN (r c:Int):Int:=if 1<=r/\r<=1000/\1<=c/\c<=1000 then 0 else 26
theorem afI {s:Sc}{p:Pa}{v:DV}(hv:aJ s p v):∃l:List DV,v=.agg l/\l.length=24/\l.all DV.one=true:=by
 obtain ⟨z1,z2,z3,k1,k2,k3,m,pr,d1,d2,d3,sv,rfl⟩:=hv
 obtain ⟨o1,o2,o3⟩:=sv.pa.one
 exact ⟨_,rfl,rfl,by simp only[scD,List.all_cons,List.all_nil,o1,o2,o3,Bool.and_true];rfl⟩
theorem afU {T:ay}{r c:Int}{K:DV->ay->Prop}(h:∀T' l,ax T T' []->l.length=24->l.all DV.one=true->K (.tup [.agg l,.int .i64 (afN r c)]) T'):aj PG 16 [.int .i64 r,.int .i64 c] T K:=by
 rcases Decidable.em (1<=r/\r<=1000/\1<=c/\c<=1000) with hn | hn
 ·obtain ⟨a,rfl⟩:∃a:Nat,r=a:=⟨r.toNat,by omega⟩
  obtain ⟨b,rfl⟩:∃b:Nat,c=b:=⟨c.toNat,by omega⟩
  have e:afN a b=0:=if_pos hn
  rw[e] at h
  refine L1 (by omega) (by omega) fun T' v k hv=>?_
  obtain ⟨l,rfl,h1,h2⟩:=afI hv
  exact h T' l k h1 h2
 ·have e:afN r c=26:=if_neg hn
  rw[e] at h
  exact Rh hn fun T' k=>h T' _ k rfl (by decide)
theorem afR {T:ay}{r c:Int}{K:DV->ay->Prop}(h:∀T' l,ax T T' []->l.length=24->l.all DV.one=true->K (.tup [.agg l,.int .i64 (afN r c)]) T'):aj PG 22 [.int .i64 r,.int .i64 c] T K:=by
 rcases Decidable.em (1<=r/\r<=1000/\1<=c/\c<=1000) with hn | hn
 ·obtain ⟨a,rfl⟩:∃a:Nat,r=a:=⟨r.toNat,by omega⟩
  obtain ⟨b,rfl⟩:∃b:Nat,c=b:=⟨c.toNat,by omega⟩
  have e:afN a b=0:=if_pos hn
  rw[e] at h
  refine Qj (by omega) (by omega) fun T' v k hv=>?_
  obtain ⟨l,rfl,h1,h2⟩:=afI hv
  exact h T' l k h1 h2
 ·have e:afN r c=26:=if_neg hn
  rw[e] at h
  exact afZ hn fun T' k=>h T' _ k rfl (by decide)
set_option maxHeartbeats 1000000 in
theorem afo {A:ay}{z:Sc × Pa}{o:Nat}{a y x:Int}{y1 y2 y3:Nat}{j1 j2 j3:SK}{m pr:Int}{e1 e2 e3:DV}{Q:Exit->St->Prop}(FX:ScF z)(sv:ScV z.1 z.2 y1 y2 y3 m pr e1 e2 e3)(ha:0<=a/\a<=255)(hb:A[o]?=some (some (.box (scD z.1 y1 y2 y3 j1 j2 j3 m pr e1 e2 e3))))
  (hQ:∀T',ax A T' []->Q .ret ⟨[(14,.bool true)],T'⟩) {X:List (Nat × DV)} (hX:X=[]\/∃d,X=[(74,d)]) :
  WpH PG (tab []) 132 ae2 Q ⟨(3,.int .u8 a)::(5,.int .i64 y)::(6,.int .i64 x)::(15,.ptr o 0 0)::X,A⟩:=by
 obtain ⟨p1,p2,p3⟩:=sv.pa.one
 have hv:aJ z.1 z.2 (.agg (scD z.1 y1 y2 y3 j1 j2 j3 m pr e1 e2 e3)):=⟨_,_,_,_,_,_,_,_,_,_,_,sv,rfl⟩
 have w1:IntKind.i64.wrap a=a:=aO (by omega) (by omega)
 have w2:IntKind.i64.wrap (a-3)=a-3:=aO (by omega) (by omega)
 have hb0:=hb
 unfold scD at hb hv
 rcases hX with rfl | ⟨d,rfl⟩
 all_goals
  unfold WpH ae2
  simp -implicitDefEqProofs -dsimp only[ah,w1,w2,vcS,↓vcQ,simprocAttr]
  refine afU fun T1 l1 k1 g1 g2=>?_
  simp -implicitDefEqProofs -dsimp only[ah,g1,g2,vcS,↓vcQ,simprocAttr]
  refine afR fun T2 l2 k2 g3 g4=>?_
  have kA2:ax A T2 []:=(k1.dU _).new k2 (by simp)
  have hb2:=kA2.at hb (by simp)
  have hb3:=fun l=>hO hb2 l
  have aeV:∀u:Int,(u=u)=True:=fun u=>eq_true rfl
  rcases Decidable.em (a-3<0\/(z.1.rows:Int)<=a-3) with hr | hr
  ·simp -implicitDefEqProofs -dsimp only[ah,fun l=>ai (hb3 l),g3,g4,w1,w2,p1,p2,p3,vcS,↓vcQ,simprocAttr]
   refine af0 FX.ok hv hr fun T3 q k3=>?_
   have hb4:=k3.at (hb3 _) (by simp)
   have kA3:ax A T3 []:=(kA2.dU _).new k3 (by simp)
   rcases Decidable.em (a-3<0) with h0 | h0
   ·simp -implicitDefEqProofs -dsimp only[ah,ai hb4,h0,w1,w2,p1,p2,p3,vcS,↓vcQ,simprocAttr]
    exact hQ _ kA3
   ·have h1:(z.1.rows:Int)<=a-3:=by omega
    simp -implicitDefEqProofs -dsimp only[ah,ai hb4,eq_false h0,h1,w1,w2,p1,p2,p3,vcS,↓vcQ,simprocAttr]
    exact hQ _ kA3
  ·obtain ⟨n,hn⟩:∃n:Nat,a-3=n:=⟨(a-3).toNat,by omega⟩
   rw[hn] at w2
   have h0:¬(n:Int)<0:=by omega
   have h1:¬(z.1.rows:Int)<=n:=by omega
   have hy:n<z.1.rows:=by omega
   simp -implicitDefEqProofs -dsimp only[ah,fun l=>ai (hb3 l),g3,g4,w1,w2,hn,p1,p2,p3,vcS,↓vcQ,simprocAttr]
   refine af1 FX.ok hv hy fun T3 k3=>?_
   have hb4:=k3.at (hb3 _) (by simp)
   have kA3:ax A T3 []:=(kA2.dU _).new k3 (by simp)
   have aeJ:=FX.ok.g.r
   have gc:=FX.ok.g.c
   have hin:=cY (aa:=z.1.aa) hy
   have hs:=bx n z.1.aa
   have hm:z.1.rows*z.1.aa<=1000*1000:=Nat.mul_le_mul aeJ.2 gc.2
   have aeI:=FX.ok.g.len
   obtain ⟨R,eR⟩:∃R,R=n*z.1.aa:=⟨_,rfl⟩
   have wn:IntKind.i64.wrap ((n:Int)+1)=((n+1:Nat):Int):=by rw[aO (by omega) (by omega)];omega
   have wR:IntKind.i64.wrap ((n:Int)*z.1.aa)=(R:Int):=by
    have:(n:Int)*z.1.aa=(R:Int):=by rw[eR];simp
    rw[this];exact aO (by omega) (by omega)
   have wS:IntKind.i64.wrap (((n+1:Nat):Int)*z.1.aa)=((R+z.1.aa:Nat):Int):=by
    have:((n+1:Nat):Int)*z.1.aa=((R+z.1.aa:Nat):Int):=by rw[eR,<-hs];simp
    rw[this];exact aO (by omega) (by omega)
   have r0:(0:Int)<=(R:Int):=by omega
   have r1:(0:Int)<=((R+z.1.aa:Nat):Int):=by omega
   have r2:R<=R+z.1.aa:=by omega
   have r3:R+z.1.aa<=z.1.cells.length:=by omega
   have r4:R+z.1.aa-R=z.1.aa:=by omega
   have FY:(z.1.cells.drop R).take z.1.aa=cM z.1.cells z.1.aa n:=by rw[eR];rfl
   have aeQ:=bG FX.ok.g hy
   have ys:=sv.z1
   simp -implicitDefEqProofs -dsimp only[ah,ai hb4,eq_false h0,h1,w1,w2,hn,wn,wR,wS,r0,r1,r2,r3,r4,ys,az,jx,jw,FY,p1,p2,p3,vcS,↓vcQ,simprocAttr]
   refine MI (.inl rfl) (.inl rfl) (by omega) ?_
   simp -implicitDefEqProofs -dsimp only[ah,vcS,↓vcQ,simprocAttr]
   exact hQ _ kA3
theorem af2 {T:ay}{r c a b y x:Int}{l:List Int}{s1:Nat}{k1:SK}{K:DV->ay->Prop}(hr:0<=r/\r<=255)(hc:0<=c/\c<=255)(ha:0<=a/\a<=255)(hb:0<=b/\b<=255)(hs:s1=1\/l=[])(hk0:∀e∈l,0<=e/\e<=255)(h:∀T',ax T T' []->K (.bool true) T') :
  aj PG 7 [.int .u8 r,.int .u8 c,.sl s1 (af .u8 l) k1,.int .u8 a,.int .u8 b,.int .i64 y,.int .i64 x] T K:=by
 have hlr:(af .u8 l).length=l.length:=by simp[af]
 have FX:ScF (scX r c l):=acS
 rcases Nat.lt_or_ge 40 l.length with h1 | h1
 ·have c1:(40:Int)<l.length:=by omega
  refine aj.aE FOk.nil aff (by simp[ae7]) ?_
  unfold ae7
  dsimp only
  simp -implicitDefEqProofs -dsimp only[ah,↓aeZ,vcS,↓vcQ,simprocAttr]
  refine vM fun T1 g1=>?_
  simp -implicitDefEqProofs -dsimp only[ah,hlr,c1,↓aeZ,vcS,↓vcQ,simprocAttr]
  exact gI g1 fun k=>h _ k
 have c1:¬(40:Int)<l.length:=by omega
 have hk:inK .u8 l:=lG (by omega) hk0
 obtain ⟨n,en⟩:∃n,n=(a % 9).toNat:=⟨_,rfl⟩
 obtain ⟨m,em⟩:∃m,m=(b % 12).toNat:=⟨_,rfl⟩
 have ea:a.tmod 9=(n:Int):=by rw[Int.tmod_eq_emod_of_nonneg ha.1];omega
 have eb:b.tmod 12=(m:Int):=by rw[Int.tmod_eq_emod_of_nonneg hb.1];omega
 have wa:IntKind.u8.wrap (n:Int)=(n:Int):=wU8 (by omega) (by omega)
 have wb:IntKind.u8.wrap (m:Int)=(m:Int):=wU8 (by omega) (by omega)
 have wa2:IntKind.i64.wrap (n:Int)=(n:Int):=aO (by omega) (by omega)
 have wb2:IntKind.i64.wrap (m:Int)=(m:Int):=aO (by omega) (by omega)
 refine aj.aE FOk.nil aff (by simp[ae7]) ?_
 unfold ae7
 dsimp only
 simp -implicitDefEqProofs -dsimp only[ah,↓aeZ,vcS,↓vcQ,simprocAttr]
 refine vM fun T1 g1=>?_
 simp -implicitDefEqProofs -dsimp only[ah,hlr,c1,↓aeZ,vcS,↓vcQ,simprocAttr]
 refine Nn hr hc hs hk (by omega) fun T2 v g2 hv'=>?_
 have hv:=hv'
 obtain ⟨y1,y2,y3,j1,j2,j3,m',pr',e1,e2,e3,sv',rfl⟩:=hv'
 obtain ⟨p1,p2,p3⟩:=sv'.pa.one
 generalize scX r c l=z at *
 have k2:ax T T2 []:=g1.new g2 (by simp)
 have hb2:=aZ T2 [] (some (Ob.box (scD z.1 y1 y2 y3 j1 j2 j3 m' pr' e1 e2 e3)))
 have agk:=hb2
 unfold scD at hb2
 unfold scD
 have hvu:=hv
 unfold scD at hvu
 simp -implicitDefEqProofs -dsimp only[ah,ea,eb,wa,wb,wa2,wb2,p1,p2,p3,↓aeZ,vcS,↓vcQ,simprocAttr]
 rcases Decidable.em (1<=n/\1<=m) with hv1 | hv1
 ·refine agh FX.ok FX.pk hvu (by omega) (by omega) fun T3 v3 g3 hv3=>?_
  have kI:ScF (ae3 z.1 n m,z.2):=af3 FX (by omega) (by omega)
  have hb3:=g3.at hb2 (by simp)
  have agc:=hv3
  obtain ⟨u1,u2,u3,i1,i2,i3,aeS,pr3,f1,f2,f3,sv3,rfl⟩:=hv3
  obtain ⟨q1,q2,q3⟩:=sv3.pa.one
  unfold scD at agc ⊢
  generalize hzs:ae3 z.1 n m=zs at *
  have afV:=fun l=>hO hb3 l
  simp -implicitDefEqProofs -dsimp only[ah,ai hb3,fun l=>ai (afV l),ea,eb,wa,wb,wa2,wb2,p1,p2,p3,q1,q2,q3,↓aeZ,vcS,↓vcQ,simprocAttr]
  refine age FX.ok hvu (by omega) (by omega) fun T4 v4 g4 hv4=>?_
  rw[hzs] at hv4
  have hb4:=g4.at (afV [some (Ob.box _)]) (by simp)
  have ht4:=g4.at (aZ T3 [] (some (Ob.box _))) (by simp)
  have agi:=hv4
  obtain ⟨u4,u5,u6,i4,i5,i6,aeT,pr4,f4,f5,f6,sv4,rfl⟩:=hv4
  obtain ⟨q4,q5,q6⟩:=sv4.pa.one
  unfold scD at agi ⊢
  have af4:=fun l=>hO ht4 l
  simp -implicitDefEqProofs -dsimp only[ah,ai hb4,ai ht4,fun l=>ai (af4 l),q1,q2,q3,q4,q5,q6,↓aeZ,vcS,↓vcQ,simprocAttr]
  refine DT kI.ok kI.pk agc agi fun T5 g5=>?_
  have ht5:=g5.at (af4 [some (Ob.box _)]) (by simp)
  have hb5:=g5.at (hO hb4 [some (Ob.box _)]) (by simp)
  simp -implicitDefEqProofs -dsimp only[ah,ai ht5,q1,q2,q3,↓aeZ,vcS,↓vcQ,simprocAttr]
  refine wL kI agc fun T6 g6=>?_
  have hb6:=g6.at hb5 (by simp)
  simp -implicitDefEqProofs -dsimp only[ah,↓aeZ,vcS,↓vcQ,simprocAttr]
  have aeL:ax T T6 []:=((((((k2.dU _).new g3 (by simp)).dU _).new g4 (by simp)).dU _).new g5 (by simp)).new g6 (by simp)
  with_reducible refine afo FX sv' ha (by unfold scD;exact hb6) (fun v5 aeM=>?_) (.inr ⟨_,rfl⟩)
  simp -implicitDefEqProofs -dsimp only[ah,vcS,↓vcQ,simprocAttr]
  exact gI (aeL.new aeM (by simp)) fun k=>h _ k
 ·refine agb hvu (by omega) fun T3 g3=>?_
  have hb3:=g3.at hb2 (by simp)
  have afV:=fun l=>hO hb3 l
  unfold lp
  simp -implicitDefEqProofs -dsimp only[ah,ai hb3,fun l=>ai (afV l),ea,eb,wa,wb,wa2,wb2,p1,p2,p3,↓aeZ,vcS,↓vcQ,simprocAttr]
  refine aga hvu (by omega) fun T4 g4=>?_
  have hb4:=g4.at (afV [some (Ob.box _)]) (by simp)
  have ht4:=g4.at (aZ T3 [] (some (Ob.box _))) (by simp)
  have af4:=fun l=>hO ht4 l
  unfold lp
  simp -implicitDefEqProofs -dsimp only[ah,ai hb4,ai ht4,fun l=>ai (af4 l),↓aeZ,vcS,↓vcQ,simprocAttr]
  refine afQ fun T5 g5=>?_
  have hb5:=g5.at (hO hb4 [some (Ob.box _)]) (by simp)
  simp -implicitDefEqProofs -dsimp only[ah,↓aeZ,vcS,↓vcQ,simprocAttr]
  have aeL:ax T T5 []:=(((((k2.dU _).new g3 (by simp)).dU _).new g4 (by simp)).dU _).new g5 (by simp)
  with_reducible refine afo FX sv' ha (by unfold scD;exact hb5) (fun v5 aeM=>?_) (.inr ⟨_,rfl⟩)
  simp -implicitDefEqProofs -dsimp only[ah,vcS,↓vcQ,simprocAttr]
  exact gI (aeL.new aeM (by simp)) fun k=>h _ k
theorem afb (dv:List DV)(h:wE [(false,[.int .u8]),(false,[.int .u8]),(false,[.sl [.int .u8]]),(false,[.int .u8]),(false,[.int .u8]),(false,[.int .i64]),(false,[.int .i64])] dv){K:DV->ay->Prop}(hK:∀T',K (.bool true) T'):aj PG 7 dv [] K:=by
 obtain ⟨a0,r0,rfl,h0,h⟩:=h.cons
 obtain ⟨a1,r1,rfl,h1,h⟩:=h.cons
 obtain ⟨a2,r2,rfl,h2,h⟩:=h.cons
 obtain ⟨a3,r3,rfl,h3,h⟩:=h.cons
 obtain ⟨a4,r4,rfl,h4,h⟩:=h.cons
 obtain ⟨a5,aeX,rfl,h5,h⟩:=h.cons
 obtain ⟨a6,aeY,rfl,h6,h⟩:=h.cons
 obtain rfl:=h.nil
 obtain ⟨x,rfl,hx⟩:=DE h0
 obtain ⟨y,rfl,hy⟩:=DE h1
 obtain ⟨l,rfl,hl⟩:=ua h2
 obtain ⟨u,rfl,hu⟩:=DE h3
 obtain ⟨w,rfl,hw⟩:=DE h4
 obtain ⟨p,rfl,hp⟩:=DE h5
 obtain ⟨q,rfl,hq⟩:=DE h6
 exact af2 hx hy hu hw (.inl rfl) hl fun T' _=>hK T'
end Go.Proofs.YtjmnbpilnneonaaGreatDoor
