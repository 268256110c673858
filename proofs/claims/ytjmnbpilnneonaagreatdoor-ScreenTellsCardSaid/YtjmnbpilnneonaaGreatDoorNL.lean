/- Texts R25 in one. -/
import Derived.Test.YtjmnbpilnneonaaGreatDoorNK
set_option linter.unusedVariables false
set_option linter.unusedSimpArgs false
set_option maxRecDepth 10000
set_option linter.defProp false
namespace Go.Proofs.YtjmnbpilnneonaaGreatDoor
open Go.RowKit
noncomputable section
def m9:OT:=(.op (OP 15 (.alloc ZS)) (.op (SA 24 14 56) (.op (SA 24 15 59) .done)))
theorem zX:m9=(.op (OP 15 (.alloc ZS)) (.op (SA 24 14 56) (.op (SA 24 15 59) .done))):=ak _
def m8:OT:=(.op (OP 14 (.alloc ZS)) (.op (SA 24 14 56) (.op (SA 24 15 59) .done)))
theorem zW:m8=(.op (OP 14 (.alloc ZS)) (.op (SA 24 14 56) (.op (SA 24 15 59) .done))):=ak _
def qy:OT:=(.alt (.op (OP 59 (.call 14 [.t 57,.t 58])) m9) (.op (OP 15 (.alloc ZS)) (.op (OP 59 (.call 14 [.t 57,.t 58])) (.op (SA 24 14 56) (.op (SA 24 15 59) .done)))))
theorem zV:qy=(.alt (.op (OP 59 (.call 14 [.t 57,.t 58])) m9) (.op (OP 15 (.alloc ZS)) (.op (OP 59 (.call 14 [.t 57,.t 58])) (.op (SA 24 14 56) (.op (SA 24 15 59) .done))))):=ak _
def qx:OT:=(.alt (.op (OP 59 (.call 14 [.t 57,.t 58])) m8) (.op (OP 14 (.alloc ZS)) (.op (OP 59 (.call 14 [.t 57,.t 58])) (.op (SA 24 14 56) (.op (SA 24 15 59) .done)))))
theorem zU:qx=(.alt (.op (OP 59 (.call 14 [.t 57,.t 58])) m8) (.op (OP 14 (.alloc ZS)) (.op (OP 59 (.call 14 [.t 57,.t 58])) (.op (SA 24 14 56) (.op (SA 24 15 59) .done))))):=ak _
def xX:=J @zX<|J @zW<|J @zV<|@zU
def xY:RC:=(SR [BT 51 .lss 50 49] [0,1,2,11,48,49,50,51] (.seq (.cond (.t 51) .skip (.ext 0)) (.seq (.blk 1 (SR [OP 52 (.aT 1 (.t 48) (.t 50)),LD 53 52,MV 13 53] [0,1,2,11,13,48,49,50] (.seq (.cJ (.take (LT 54 24 11) [] (.take (MV 55 13) [] (.take (LT 57 24 11) [] (.take (MV 58 13) [] (.alt (.op (OP 56 (.call 13 [.t 54,.t 55])) (.alt (.op (OP 59 (.call 14 [.t 57,.t 58])) (.alt (.op (OP 14 (.alloc ZS)) m9) (.op (OP 15 (.alloc ZS)) m8))) (.alt (.op (OP 14 (.alloc ZS)) qy) (.op (OP 15 (.alloc ZS)) qx)))) (.alt (.op (OP 14 (.alloc ZS)) (.alt (.op (OP 56 (.call 13 [.t 54,.t 55])) qy) (.op (OP 15 (.alloc ZS)) (.op (OP 56 (.call 13 [.t 54,.t 55])) (.op (OP 59 (.call 14 [.t 57,.t 58])) (.op (SA 24 14 56) (.op (SA 24 15 59) .done))))))) (.op (OP 15 (.alloc ZS)) (.alt (.op (OP 56 (.call 13 [.t 54,.t 55])) qx) (.op (OP 14 (.alloc ZS)) (.op (OP 56 (.call 13 [.t 54,.t 55])) (.op (OP 59 (.call 14 [.t 57,.t 58])) (.op (SA 24 14 56) (.op (SA 24 15 59) .done))))))))))))) 0 [0,1,2,11,14,15,48,49,50]) (SR [LT 60 24 14,LT 61 24 15,OP 62 (.call 15 [.t 60,.t 61]),OP 63 (.un .not (.t 62)),MV 64 63,OG 65 (.load true 24 (.t 14)) 64 false,OG 66 (.call 10 [.t 65]) 64 false,OG 67 (.un .not (.t 66)) 64 false,OP 68 (.pick (.t 64) (.c (.bool true)) (.t 67))] [0,1,2,11,48,49,50,68] (.cond (.t 68) (SR [MB 10 false] [10] .ret) .skip))))) (.reg [BI 69 .add 50 1,MV 50 69] 0 [0,1,2,11,48,49,50]))))
def iX:RFn:=⟨5,92,(SR [MB 10 false] [0,1,2,3,4] (.seq (SR [OP 18 (.call 8 []),OP 19 (.un .not (.t 18))] [0,1,2,3,4,19] (.cond (.t 19) (SR [MB 10 false] [10] .ret) .skip)) (.seq (SR [MV 20 2,OP 21 (.len (.t 20)),BI 22 .gtr 21 40,MV 23 22,MG 24 3 23 false,OG 25 (.len (.t 24)) 23 false,OG 26 (.bin .gtr (.t 25) (.c (.int .i64 40))) 23 false,OP 27 (.pick (.t 23) (.c (.bool true)) (.t 26)),MV 28 27,MG 29 4 28 false,OG 30 (.len (.t 29)) 28 false,OG 31 (.bin .gtr (.t 30) (.c (.int .i64 100))) 28 false,OP 32 (.pick (.t 28) (.c (.bool true)) (.t 31))] [0,1,2,3,4,32] (.cond (.t 32) (SR [MB 10 true] [10] .ret) .skip)) (SR [MV 33 0,MV 34 1,MV 35 2,OP 36 (.call 9 [.t 33,.t 34,.t 35]),OP 11 (.alloc ZS),SA 24 11 36] [0,1,2,3,4,11] (.seq (SR [LT 37 24 11,OP 38 (.call 10 [.t 37]),OP 39 (.un .not (.t 38)),MV 40 39,OG 41 (.load true 24 (.t 11)) 40 false,OG 42 (.call 11 [.t 41]) 40 false,OG 43 (.un .not (.t 42)) 40 false,OP 44 (.pick (.t 40) (.c (.bool true)) (.t 43))] [0,1,2,3,4,11,44] (.cond (.t 44) (SR [MB 10 false] [10] .ret) .skip)) (.seq (SR [MV 45 3,OP 46 (.call 12 [.t 45]),MV 47 4,OP 48 (.bK 1 [.sl 0 [] .nil] 2 [(0,(.t 46)),(1,(.t 47))]),OP 49 (.len (.t 48)),OP 50 (.mov (.c (.int .i64 0)))] [0,1,2,11,48,49,50] (.blk 0 (.loop xY))) (SR [MV 71 0,OP 72 (.bin .rem (.t 71) (.c (.int .u8 6))),OP 73 (.conv (.i2i .i64) (.t 72)),BI 74 .add 73 1,MV 75 1,OP 76 (.bin .rem (.t 75) (.c (.int .u8 9))),OP 77 (.conv (.i2i .i64) (.t 76)),BI 78 .add 77 1,OP 79 (.call 16 [.t 74,.t 78]),MV 70 79,OP 80 (.ext (.t 70) 0),OP 81 (.ext (.t 70) 1),OP 16 (.alloc ZS),SA 24 16 80,MV 17 81] [2,11,16,17] (.seq (.cJ (.take (MV 82 17) [] (.take (BI 83 .eql 82 0) [] (.take (MV 84 83) [] (.take (OG 85 (.load true 24 (.t 16)) 84 true) [] (.take (MG 86 2 84 true) [] (.take (OG 89 (.load true 24 (.t 11)) 84 true) [] (.op (OG 87 (.call 12 [.t 86]) 84 true) (.op (OG 88 (.call 13 [.t 85,.t 87]) 84 true) (.mid (OG 90 (.call 15 [.t 88,.t 89]) 84 true) (.take (OP 91 (.pick (.t 84) (.t 90) (.c (.bool false)))) [] (.take (MV 10 91) [] .done))))))))))) 0 [10]) .ret)))))))),[.t 10]⟩
theorem m7:aK PG.P (aA PG.P 3 iX) 3=some iX:=by kernel_rfl
theorem WS {T:ay}{r c:Int}{l u w:List Int}{s1 s2 s3:Nat}{k1 k2 k3:SK}{K:DV->ay->Prop}(hr:0<=r/\r<=255)(hc:0<=c/\c<=255)(hs:s1=1\/l=[])(hk0:∀e∈l,0<=e/\e<=255)(hs2:s2=1\/u=[])(aeq:∀e∈u,0<=e/\e<=255)(hs3:s3=1\/w=[])(abt:∀e∈w,0<=e/\e<=255)(h:∀T',ax T T' []->K (.bool true) T') :
  aj PG 3 [.int .u8 r,.int .u8 c,.sl s1 (af .u8 l) k1,.sl s2 (af .u8 u) k2,.sl s3 (af .u8 w) k3] T K:=by
 have hlr:(af .u8 l).length=l.length:=by simp[af]
 have hur:(af .u8 u).length=u.length:=by simp[af]
 have hwr:(af .u8 w).length=w.length:=by simp[af]
 have FX:ScF (scX r c l):=acS
 rcases Nat.lt_or_ge 40 l.length with h1 | h1
 ·have c1:(40:Int)<l.length:=by omega
  refine aj.aE Be m7 (by simp[iX]) ?_
  unfold iX
  dsimp only
  simp -implicitDefEqProofs -dsimp only[ah,qS,vcS,↓vcQ,simprocAttr]
  refine vM fun T1 g1=>?_
  simp -implicitDefEqProofs -dsimp only[ah,qS,hlr,c1,vcS,↓vcQ,simprocAttr]
  exact gI g1 fun k=>h _ k
 have c1:¬(40:Int)<l.length:=by omega
 rcases Nat.lt_or_ge 40 u.length with h2 | h2
 ·have c2:(40:Int)<u.length:=by omega
  refine aj.aE Be m7 (by simp[iX]) ?_
  unfold iX
  dsimp only
  simp -implicitDefEqProofs -dsimp only[ah,qS,vcS,↓vcQ,simprocAttr]
  refine vM fun T1 g1=>?_
  simp -implicitDefEqProofs -dsimp only[ah,qS,hlr,hur,c1,c2,vcS,↓vcQ,simprocAttr]
  exact gI g1 fun k=>h _ k
 have c2:¬(40:Int)<u.length:=by omega
 rcases Nat.lt_or_ge 100 w.length with h3 | h3
 ·have c3:(100:Int)<w.length:=by omega
  refine aj.aE Be m7 (by simp[iX]) ?_
  unfold iX
  dsimp only
  simp -implicitDefEqProofs -dsimp only[ah,qS,vcS,↓vcQ,simprocAttr]
  refine vM fun T1 g1=>?_
  simp -implicitDefEqProofs -dsimp only[ah,qS,hlr,hur,hwr,c1,c2,c3,vcS,↓vcQ,simprocAttr]
  exact gI g1 fun k=>h _ k
 have c3:¬(100:Int)<w.length:=by omega
 have hk:inK .u8 l:=lG (by omega) hk0
 have i1:aD .u8 (.sl s1 (af .u8 l) k1):=aQ hs hk
 have i2:aD .u8 (.sl s2 (af .u8 u) k2):=aQ hs2 (lG (by omega) aeq)
 have i3:aD .u8 (.sl s3 (af .u8 w) k3):=aQ hs3 (lG (by omega) abt)
 have l1:l.length<=100:=by omega
 have l2:u.length<=100:=by omega
 have l3:w.length<=1000000:=by omega
 have hbl:=m4 l
 have hbk:=wN l1
 have aeH:=m4 u
 have adm:=wN l2
 have lb1:(cT l).length<=1000000:=by omega
 have lb2:(cT u).length<=1000000:=by omega
 refine aj.aE Be m7 (by simp[iX]) ?_
 unfold iX
 dsimp only
 simp -implicitDefEqProofs -dsimp only[ah,qS,vcS,↓vcQ,simprocAttr]
 refine vM fun T1 g1=>?_
 simp -implicitDefEqProofs -dsimp only[ah,qS,acn,hlr,hur,hwr,c1,c2,c3,vcS,↓vcQ,simprocAttr]
 refine Nn hr hc hs hk l1 fun T2 v g2 hv'=>?_
 have hv:=hv'
 obtain ⟨y1,y2,y3,j1,j2,j3,m',pr',e1,e2,e3,sv',rfl⟩:=hv'
 obtain ⟨p1,p2,p3⟩:=sv'.pa.one
 have hfd:(cT l).foldl eJ (newF ((r % 6).toNat+1) ((c % 9).toNat+1),pa0 0)=scX r c l:=rfl
 generalize scX r c l=x at *
 unfold scD at hv ⊢
 have hb2:=aZ T2 [] (some (Ob.box (scD x.1 y1 y2 y3 j1 j2 j3 m' pr' e1 e2 e3)))
 unfold scD at hb2
 simp -implicitDefEqProofs -dsimp only[ah,Fp,VD,p1,p2,p3,vcS,↓vcQ,simprocAttr]
 refine wL FX hv fun T3 g3=>?_
 have hb3:=g3.at hb2 (by simp)
 simp -implicitDefEqProofs -dsimp only[ah,ai hb3,Fp,VD,p1,p2,p3,vcS,↓vcQ,simprocAttr]
 refine MJ FX hv fun T4 g4=>?_
 have hb4:=g4.at hb3 (by simp)
 simp -implicitDefEqProofs -dsimp only[ah,ai hb4,aaq,LF,i2,aL,l2,p1,p2,p3,vcS,↓vcQ,simprocAttr]
 have hsc:=yX FX hv
 have his:Dm _:=⟨x,FX,hv⟩
 have i3':inK .u8 w:=lG (by omega) abt
 have k14:ax T T4 []:=(((g1.new g2 (by simp)).dU _).new g3 (by simp)).new g4 (by simp)
 refine bk.inv Be (S:=fun σ:Nat × ay=>⟨[(0,.int .u8 r),(1,.int .u8 c),(2,.sl s1 (af .u8 l) k1),(11,.ptr T2.length 0 0),(48,.own T4.length 0 2),(49,.int .i64 2),(50,.int .i64 σ.1)],σ.2⟩)
  (I:=fun σ=>σ.1<=2/\ax T σ.2 []/\σ.2[T2.length]?=some (some (.box [.int .i64 x.1.rows,.int .i64 x.1.aa,.sl y1 (aq x.1.cells) j1,.int .i64 x.1.y,.int .i64 x.1.x,.bool x.1.wrap,.int .u16 x.1.attr,.int .i64 x.1.top,.int .i64 x.1.bot,.sl y2 (bg x.1.aP) j2,.int .i64 x.1.sy,.int .i64 x.1.sx,.int .u16 x.1.eg,.bool x.1.auto,.bool x.1.shown,.bool x.1.alt,.sl y3 (aq x.1.other) j3,.int .i64 x.1.oy,.int .i64 x.1.ox,.int .i64 m',.int .u8 pr',e1,e2,e3]))/\σ.2[T4.length]?=some (some (.arr 1 [[.sl 1 (af .u8 (cT u)) .any],[.sl s3 (af .u8 w) k3]]))) (μ:=fun σ=>2-σ.1) (0,T4++ [some (.arr 1 [[.sl 1 (af .u8 (cT u)) .any],[.sl s3 (af .u8 w) k3]])]) ⟨Nat.zero_le _,k14.dU _,hO hb4 _,aZ _ _ _⟩ ?_ ?_
 ·simp -implicitDefEqProofs -dsimp only[an,vcS,↓vcQ,simprocAttr]
 ·intro ⟨i,A⟩ ⟨a3,a0,a1,a2⟩
  dsimp only at a0 a1 a2 a3 ⊢
  unfold xY
  have w10:IntKind.i64.wrap (0+1)=1:=by decide
  have w11:IntKind.i64.wrap (1+1)=2:=by decide
  rcases (show i=0\/i=1\/i=2 by omega) with rfl | rfl | rfl
  ·obtain ⟨y,hY⟩:∃y,(cT u).foldl eJ x=y:=⟨_,rfl⟩
   have FY:ScF y:=by rw[<-hY];exact AJ FX tE
   have hyv:=zK FY.pk
   rw[yW] at hyv
   simp -implicitDefEqProofs -dsimp only[ah,ai a1,ai a2,xX,VE,aap,xK,yW,hsc,his,aL,adm,lb2,i3,i3',l3,hY,Ln,p1,p2,p3,vcS,↓vcQ,simprocAttr]
   repeat' (with_reducible apply And.intro)
   all_goals
    refine DT FY.ok FY.pk hyv hyv fun T5 g5=>?_
    have hb5:=g5.at (aZ A [_] (some (Ob.box _))) (by simp)
    have hb6:=g5.at (bl A [_,some (Ob.box _)] 1) (by simp)
    simp -implicitDefEqProofs -dsimp only[ah,ai hb5,ai hb6,Fp,vcS,↓vcQ,simprocAttr]
    refine wL FY hyv fun T6 g6=>?_
    simp -implicitDefEqProofs -dsimp only[ah,w10,an,vcS,↓vcQ,simprocAttr]
    have kA:ax A T6 []:=((ax.app A _ []).new g5 (by simp)).new g6 (by simp)
    exact ⟨(1,T6),⟨rfl,aH _⟩,⟨by dsimp only;omega,a0.new kA (by simp),kA.at a1 (by simp),kA.at a2 (by simp)⟩,by dsimp only;omega⟩
  ·obtain ⟨y,hY⟩:∃y,(w).foldl eJ x=y:=⟨_,rfl⟩
   have FY:ScF y:=by rw[<-hY];exact AJ FX abt
   have hyv:=zK FY.pk
   rw[yW] at hyv
   simp -implicitDefEqProofs -dsimp only[ah,ai a1,ai a2,xX,VE,aap,xK,yW,hsc,his,aL,adm,lb2,i3,i3',l3,hY,Ln,p1,p2,p3,vcS,↓vcQ,simprocAttr]
   repeat' (with_reducible apply And.intro)
   all_goals
    refine DT FY.ok FY.pk hyv hyv fun T5 g5=>?_
    have hb5:=g5.at (aZ A [_] (some (Ob.box _))) (by simp)
    have hb6:=g5.at (bl A [_,some (Ob.box _)] 1) (by simp)
    simp -implicitDefEqProofs -dsimp only[ah,ai hb5,ai hb6,Fp,vcS,↓vcQ,simprocAttr]
    refine wL FY hyv fun T6 g6=>?_
    simp -implicitDefEqProofs -dsimp only[ah,w11,an,vcS,↓vcQ,simprocAttr]
    have kA:ax A T6 []:=((ax.app A _ []).new g5 (by simp)).new g6 (by simp)
    exact ⟨(2,T6),⟨rfl,aH _⟩,⟨by dsimp only;omega,a0.new kA (by simp),kA.at a1 (by simp),kA.at a2 (by simp)⟩,by dsimp only;omega⟩
  ·have er:r.tmod 6=r % 6:=Int.tmod_eq_emod_of_nonneg hr.1
   have ec:c.tmod 9=c % 9:=Int.tmod_eq_emod_of_nonneg hc.1
   have w1:IntKind.u8.wrap (r % 6)=r % 6:=wU8 (by omega) (by omega)
   have w2:IntKind.u8.wrap (c % 9)=c % 9:=wU8 (by omega) (by omega)
   have w3:IntKind.i64.wrap (r % 6)=r % 6:=aO (by omega) (by omega)
   have w4:IntKind.i64.wrap (c % 9)=c % 9:=aO (by omega) (by omega)
   have w5:IntKind.i64.wrap (r % 6+1)=(((r % 6).toNat+1:Nat):Int):=by rw[aO (by omega) (by omega)];omega
   have w6:IntKind.i64.wrap (c % 9+1)=(((c % 9).toNat+1:Nat):Int):=by rw[aO (by omega) (by omega)];omega
   simp -implicitDefEqProofs -dsimp only[ah,acm,er,ec,w1,w2,w3,w4,w5,w6,vcS,↓vcQ,simprocAttr]
   refine L1 (by omega) (by omega) fun T5 v5 g5 hv5=>?_
   have F0:ScF (newF ((r % 6).toNat+1) ((c % 9).toNat+1),pa0 0):=Kk (by omega) (by omega)
   have a5:=g5.at a1 (by simp)
   have hv6:=hv5
   generalize newF ((r % 6).toNat+1) ((c % 9).toNat+1)=s0 at *
   obtain ⟨q1,q2,q3,t1,t2,t3,m'',aaX,f1,f2,f3,sw,rfl⟩:=hv5
   obtain ⟨r1,r2,r3⟩:=sw.pa.one
   have ac5:=yX F0 hv6
   have adf:Dm _:=⟨_,F0,hv6⟩
   unfold scD at hv6 ac5 adf ⊢
   simp -implicitDefEqProofs -dsimp only[ah,ai a5,VE,aaq,LF,xK,ac5,adf,i1,aL,l1,hbk,lb1,hfd,Ln,r1,r2,r3,p1,p2,p3,vcS,↓vcQ,simprocAttr]
   refine DT FX.ok FX.pk (zK FX.pk) hv fun T6 g6=>?_
   simp -implicitDefEqProofs -dsimp only[ah,vcS,↓vcQ,simprocAttr]
   have kf:ax T T6 []:=((a0.new g5 (by simp)).dU _).new g6 (by simp)
   exact gI kf fun k=>h _ k
theorem wM (dv:List DV)(h:wE [(false,[.int .u8]),(false,[.int .u8]),(false,[.sl [.int .u8]]),(false,[.sl [.int .u8]]),(false,[.sl [.int .u8]])] dv){K:DV->ay->Prop}(hK:∀T',K (.bool true) T'):aj PG 3 dv [] K:=by
 obtain ⟨a0,r0,rfl,h0,h⟩:=h.cons
 obtain ⟨a1,r1,rfl,h1,h⟩:=h.cons
 obtain ⟨a2,r2,rfl,h2,h⟩:=h.cons
 obtain ⟨a3,r3,rfl,h3,h⟩:=h.cons
 obtain ⟨a4,r4,rfl,h4,h⟩:=h.cons
 obtain rfl:=h.nil
 obtain ⟨x,rfl,hx⟩:=DE h0
 obtain ⟨y,rfl,hy⟩:=DE h1
 obtain ⟨l,rfl,hl⟩:=ua h2
 obtain ⟨u,rfl,hu⟩:=ua h3
 obtain ⟨w,rfl,hw⟩:=ua h4
 exact WS hx hy (.inl rfl) hl (.inl rfl) hu (.inl rfl) hw fun T' _=>hK T'
end
end Go.Proofs.YtjmnbpilnneonaaGreatDoor
