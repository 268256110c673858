/- Texts R5, R6, R7 in one. -/
import Derived.Test.YtjmnbpilnneonaaGreatDoorNC
import Derived.Test.YtjmnbpilnneonaaGreatDoorM4
import Derived.Test.YtjmnbpilnneonaaGreatDoorN6
set_option linter.unusedVariables false
set_option linter.unusedSimpArgs false
set_option maxRecDepth 10000
namespace Go.Proofs.YtjmnbpilnneonaaGreatDoor
open Go.RowKit
noncomputable section
variable {L:List Ce}{aa rows y q x sz:Nat}{T:ay}{K:DV->ay->Prop}{r:Int}
theorem V8 {n:Nat}(hq:T[q]?=some (some (.arr 3 (aq L))))(hn:n=L.length)(h0:0<L.length)(hl:L.length<=1000000)
  (h:∀T' p,T.length<=p->T'[p]?=some (some (.arr 3 (aq L)))->ax T T' []->K (.own p 0 L.length) T'):aj PG 79 [.own q 0 n] T K:=by
 subst hn
 have hn:¬aq L=[]:=by cases L with | nil=>simp at h0 | cons a l=>simp[aq]
 have htk:List.take L.length (aq L)=aq L:=List.take_of_length_le (by rw[az];exact Nat.le_refl _)
 refine aj.aE FOk.nil zR (by simp[rM]) ?_
 unfold rM
 dsimp only
 simp -implicitDefEqProofs -dsimp only[ah,ai hq,az,hl,hn,htk,eq_true (mu L),vcS,↓vcQ,simprocAttr]
 exact ⟨by omega,h _ _ (Nat.le_refl _) (aZ _ _ _) (ax.app _ _ _)⟩
theorem Qf (g:bU L rows aa)(h:K (.tup [.int .i64 rows,.bool true]) T):aj PG 78 [.own q 0 L.length,.int .i64 aa] T K:=by
 have h1:=g.r
 have h2:=g.c
 have h3:(L.length:Int)=(rows:Int)*aa:=by rw[g.len];simp
 have h4:(L.length:Int).tmod aa=0:=by rw[h3];exact Int.mul_tmod_left _ _
 have h5:(L.length:Int).tdiv aa=rows:=by rw[h3];exact Int.mul_tdiv_cancel _ (by omega)
 have h6:¬(aa:Int)=0:=by omega
 have h7:¬(aa:Int)= -1:=by omega
 have h8:¬(aa:Int)<1:=by omega
 have h9:¬(1000:Int)<aa:=by omega
 have w:IntKind.i64.wrap (rows:Int)=rows:=aO (by omega) (by omega)
 have r1:¬(rows:Int)<1:=by omega
 have r2:¬(1000:Int)<rows:=by omega
 refine aj.aE FOk.nil xQ (by simp[nV]) ?_
 unfold nV
 dsimp only
 simp -implicitDefEqProofs -dsimp only[ah,az,h4,h5,h6,h7,h8,h9,w,r1,r2,vcS,↓vcQ,simprocAttr]
 exact h
theorem MK (g:bU L rows aa)(hy:y<rows)(hx:x<=aa)(h:K (.bool true) T):aj PG 88 [.own q 0 L.length,.int .i64 aa,.int .i64 y,.int .i64 x] T K:=by
 refine aj.aE FOk.nil uI (by simp[me]) ?_
 unfold me
 dsimp only
 simp -implicitDefEqProofs -dsimp only[ah,vcS,↓vcQ,simprocAttr]
 refine Qf g ?_
 have a1:(0:Int)<=y:=by omega
 have a2:(y:Int)<rows:=by omega
 have a3:(0:Int)<=x:=by omega
 have a4:(x:Int)<=aa:=by omega
 simp -implicitDefEqProofs -dsimp only[ah,a1,a2,a3,a4,vcS,↓vcQ,simprocAttr]
 exact h
set_option maxHeartbeats 4000000 in
theorem ux (hq:T[q]?=some (some (.arr 3 (aq L))))(g:bU L rows aa)(hy:y<rows)
  (h:∀T' p,T.length<=p->T'[p]?=some (some (.arr 3 (aq (cO L aa y))))->ax T T' []->K (.own p 0 L.length) T'):aj PG 53 [.own q 0 L.length,.int .i64 aa,.int .i64 y] T K:=by
 have h1:=g.r
 have h2:=g.c
 have hl:=g.lim
 have hgl:L.length=rows*aa:=g.len
 have hrow:=cY (aa:=aa) hy
 have ys:=bx y aa
 have hM:=fH g hy
 have hout:=fun {i:Nat} hi=>Dk (i:=i) g hy hi
 have Ax:=fun {x:Nat} hx=>Hp (x:=x) g hy hx
 have vR:=fun {x:Nat} hx=>Dj (x:=x) g hy hx
 obtain ⟨M,eM⟩:∃M,M=cO L aa y:=⟨_,rfl⟩
 rw[<-eM] at h hout Ax vR hM
 obtain ⟨R,eR⟩:∃R,R=y*aa:=⟨_,rfl⟩
 have wR:IntKind.i64.wrap ((y:Int)*aa)=(R:Int):=by
  have:(y:Int)*aa=(R:Int):=by rw[eR];simp
  rw[this];exact aO (by omega) (by omega)
 have wc:IntKind.i64.wrap ((aa:Int)-1)=((aa-1:Nat):Int):=by rw[aO (by omega) (by omega)];omega
 rw[<-eR] at Ax vR
 refine aj.aE FOk.nil xT (by simp[nW]) ?_
 unfold nW
 dsimp only
 simp -implicitDefEqProofs -dsimp only[ah,vcS,↓vcQ,simprocAttr]
 refine V8 hq rfl hl.2 hl.1 fun T1 p hp hA k1=>?_
 simp -implicitDefEqProofs -dsimp only[ah,vcS,↓vcQ,simprocAttr]
 refine MK (x:=0) g hy (by omega) ?_
 simp -implicitDefEqProofs -dsimp only[ah,vcS,↓vcQ,simprocAttr]
 refine bk.inv FOk.nil (S:=fun s:Nat × ay=>⟨[(0,.own q 0 L.length),(1,.int .i64 aa),(2,.int .i64 y),(7,.own p 0 L.length),(8,.int .i64 s.1)],s.2⟩)
  (I:=fun s=>s.1<=aa/\s.2[p]?=some (some (.arr 3 (aq (e9 L M R (R+s.1)))))/\ax T s.2 [])
  (μ:=fun s=>aa-s.1) (0,T1) ⟨by simp,by rw[Nat.add_zero,kS];exact hA,k1⟩ ?_ ?_
 ·simp -implicitDefEqProofs -dsimp only[an,vcS,↓vcQ,simprocAttr]
 ·intro ⟨x,B⟩ ⟨j1,j2,j3⟩
  dsimp only at j1 j2 j3 ⊢
  unfold qv
  rcases Nat.lt_or_ge x aa with hx | hx
  ·have hxx:(x:Int)<aa:=by omega
   have wx:IntKind.i64.wrap ((x:Int)+1)=((x+1:Nat):Int):=by rw[aO (by omega) (by omega)];omega
   have wS:IntKind.i64.wrap ((R:Int)+x)=((R+x:Nat):Int):=by rw[aO (by omega) (by omega)];omega
   have wn:IntKind.i64.wrap (((R+x:Nat):Int)+1)=((R+(x+1):Nat):Int):=by rw[aO (by omega) (by omega)];omega
   have wp:0<x->IntKind.i64.wrap (((R+x:Nat):Int)-1)=((R+x-1:Nat):Int):=fun _=>by rw[aO (by omega) (by omega)];omega
   have lm:=gk (L:=L) (M:=M) (a:=R) (b:=R+x) (by omega) (by omega) hM
   have b0:(0:Int)<=((R+x:Nat):Int):=by omega
   have b1:((R+x:Nat):Int)<L.length:=by omega
   have n0:(0:Int)<=((R+(x+1):Nat):Int):=by omega
   have n1:x+1<aa->((R+(x+1):Nat):Int)<L.length:=fun _=>by omega
   have p0:(0:Int)<=((R+x-1:Nat):Int):=by omega
   have p1:((R+x-1:Nat):Int)<L.length:=by omega
   have hg:=bf (L:=e9 L M R (R+x)) (i:=R+x) (by omega)
   have hL:=bf (L:=L) (i:=R+x) (by omega)
   have hn:=fun h:x+1<aa=>bf (L:=L) (i:=R+(x+1)) (by omega)
   have hp2:=bf (L:=L) (i:=R+x-1) (by omega)
   have hb:=Ax hx
   have hgd:=vR hx
   have bY:=bM (e9 L M R (R+x)) (R+x) aM
   change (aq (e9 L M R (R+x))).set (R+x) [.int .i32 32,.int .u16 0,.int .u8 0]=_ at bY
   have vQ:=fun e=>fG (L:=L) (M:=M) (a:=R) (b:=R+x) (c:=aM) (by omega) (by omega) hM e
   have Au:=Di (L:=L) (M:=M) (a:=R) (b:=R+x) (by omega) (by omega) hM
   rw[Nat.add_assoc] at hb hgd
   generalize L.getD (R+x) aM=c at *
   generalize L.getD (R+(x+1)) aM=cn at *
   generalize L.getD (R+x-1) aM=cp at *
   rcases Decidable.em (c.h=1) with c1 | c1
   ·have c2:¬c.h=2:=by omega
    rcases Decidable.em (x+1=aa) with x1 | x1
    ·have xe:(x:Int)=((aa-1:Nat):Int):=by omega
     have e:M.getD (R+x) aM=aM:=hb (.inl ⟨c1,.inl x1⟩)
     rw[vQ e.symm] at bY
     simp -implicitDefEqProofs -dsimp only[ah,ai j2,ai (j3.at hq (by simp)),hxx,wR,wS,wn,wx,wc,b0,b1,n0,p0,p1,hL,hp2,az,eq_true c1,eq_false c2,eq_true xe,an,vcS,↓vcQ,simprocAttr]
     refine fc fun B1 kb=>?_
     have j2':=kb.at j2 (by simp)
     rw[show aM.row=[.int .i32 32,.int .u16 0,.int .u8 0] from rfl]
     simp -implicitDefEqProofs -dsimp only[ah,ai j2',ai (kb.at (j3.at hq (by simp)) (by simp)),hxx,wR,wS,wn,wx,wc,b0,b1,n0,p0,p1,hL,hp2,az,hg,bY,eq_true c1,eq_false c2,eq_true xe,an,vcS,↓vcQ,simprocAttr]
     exact ⟨(x+1,_),⟨rfl,aH _⟩,⟨hx,bZ j2' _,((j3.new kb (by simp)).put (Dd.ge hp) _)⟩,by dsimp only;omega⟩
    ·have xe:¬(x:Int)=((aa-1:Nat):Int):=by omega
     have n1':=n1 (by omega)
     have hn':=hn (by omega)
     rcases Decidable.em (cn.h=2) with d1 | d1
     ·skip
      have e:M.getD (R+x) aM=c:=hgd (fun _=>⟨by omega,d1⟩) (fun e=>absurd e c2)
      simp -implicitDefEqProofs -dsimp only[ah,ai j2,ai (j3.at hq (by simp)),hxx,wR,wS,wn,wx,wc,b0,b1,n0,p0,p1,hL,hp2,az,eq_true c1,eq_false c2,eq_false xe,n1',hn',eq_true d1,an,vcS,↓vcQ,simprocAttr]
      exact ⟨(x+1,_),⟨rfl,aH _⟩,⟨hx,by dsimp only;rw[<-Nat.add_assoc,Au e];exact j2,j3⟩,by dsimp only;omega⟩
     ·skip
      have e:M.getD (R+x) aM=aM:=hb (.inl ⟨c1,.inr ⟨by omega,d1⟩⟩)
      rw[vQ e.symm] at bY
      simp -implicitDefEqProofs -dsimp only[ah,ai j2,ai (j3.at hq (by simp)),hxx,wR,wS,wn,wx,wc,b0,b1,n0,p0,p1,hL,hp2,az,eq_true c1,eq_false c2,eq_false xe,n1',hn',eq_false d1,an,vcS,↓vcQ,simprocAttr]
      refine fc fun B1 kb=>?_
      have j2':=kb.at j2 (by simp)
      rw[show aM.row=[.int .i32 32,.int .u16 0,.int .u8 0] from rfl]
      simp -implicitDefEqProofs -dsimp only[ah,ai j2',ai (kb.at (j3.at hq (by simp)) (by simp)),hxx,wR,wS,wn,wx,wc,b0,b1,n0,p0,p1,hL,hp2,az,hg,bY,eq_true c1,eq_false c2,eq_false xe,n1',hn',eq_false d1,an,vcS,↓vcQ,simprocAttr]
      exact ⟨(x+1,_),⟨rfl,aH _⟩,⟨hx,bZ j2' _,((j3.new kb (by simp)).put (Dd.ge hp) _)⟩,by dsimp only;omega⟩
   ·rcases Decidable.em (c.h=2) with c2 | c2
    ·rcases Decidable.em (x=0) with x0 | x0
     ·have xe:(x:Int)=0:=by omega
      have e:M.getD (R+x) aM=aM:=hb (.inr ⟨c2,.inl x0⟩)
      rw[vQ e.symm] at bY
      simp -implicitDefEqProofs -dsimp only[ah,ai j2,ai (j3.at hq (by simp)),hxx,wR,wS,wn,wx,wc,b0,b1,n0,p0,p1,hL,hp2,az,eq_false c1,eq_true c2,eq_true xe,an,vcS,↓vcQ,simprocAttr]
      refine fc fun B1 kb=>?_
      have j2':=kb.at j2 (by simp)
      rw[show aM.row=[.int .i32 32,.int .u16 0,.int .u8 0] from rfl]
      simp -implicitDefEqProofs -dsimp only[ah,ai j2',ai (kb.at (j3.at hq (by simp)) (by simp)),hxx,wR,wS,wn,wx,wc,b0,b1,n0,p0,p1,hL,hp2,az,hg,bY,eq_false c1,eq_true c2,eq_true xe,an,vcS,↓vcQ,simprocAttr]
      exact ⟨(x+1,_),⟨rfl,aH _⟩,⟨hx,bZ j2' _,((j3.new kb (by simp)).put (Dd.ge hp) _)⟩,by dsimp only;omega⟩
     ·have xe:¬(x:Int)=0:=by omega
      have wp':=wp (by omega)
      rcases Decidable.em (cp.h=1) with d1 | d1
      ·skip
       have e:M.getD (R+x) aM=c:=hgd (fun e=>absurd e c1) (fun _=>⟨by omega,d1⟩)
       simp -implicitDefEqProofs -dsimp only[ah,ai j2,ai (j3.at hq (by simp)),hxx,wR,wS,wn,wx,wc,b0,b1,n0,p0,p1,hL,hp2,az,eq_false c1,eq_true c2,eq_false xe,wp',eq_true d1,an,vcS,↓vcQ,simprocAttr]
       exact ⟨(x+1,_),⟨rfl,aH _⟩,⟨hx,by dsimp only;rw[<-Nat.add_assoc,Au e];exact j2,j3⟩,by dsimp only;omega⟩
      ·skip
       have e:M.getD (R+x) aM=aM:=hb (.inr ⟨c2,.inr ⟨by omega,d1⟩⟩)
       rw[vQ e.symm] at bY
       simp -implicitDefEqProofs -dsimp only[ah,ai j2,ai (j3.at hq (by simp)),hxx,wR,wS,wn,wx,wc,b0,b1,n0,p0,p1,hL,hp2,az,eq_false c1,eq_true c2,eq_false xe,wp',eq_false d1,an,vcS,↓vcQ,simprocAttr]
       refine fc fun B1 kb=>?_
       have j2':=kb.at j2 (by simp)
       rw[show aM.row=[.int .i32 32,.int .u16 0,.int .u8 0] from rfl]
       simp -implicitDefEqProofs -dsimp only[ah,ai j2',ai (kb.at (j3.at hq (by simp)) (by simp)),hxx,wR,wS,wn,wx,wc,b0,b1,n0,p0,p1,hL,hp2,az,hg,bY,eq_false c1,eq_true c2,eq_false xe,wp',eq_false d1,an,vcS,↓vcQ,simprocAttr]
       exact ⟨(x+1,_),⟨rfl,aH _⟩,⟨hx,bZ j2' _,((j3.new kb (by simp)).put (Dd.ge hp) _)⟩,by dsimp only;omega⟩
    ·skip
     have e:M.getD (R+x) aM=c:=hgd (fun e=>absurd e c1) (fun e=>absurd e c2)
     simp -implicitDefEqProofs -dsimp only[ah,ai j2,ai (j3.at hq (by simp)),hxx,wR,wS,wn,wx,wc,b0,b1,n0,p0,p1,hL,hp2,az,eq_false c1,eq_false c2,an,vcS,↓vcQ,simprocAttr]
     exact ⟨(x+1,_),⟨rfl,aH _⟩,⟨hx,by dsimp only;rw[<-Nat.add_assoc,Au e];exact j2,j3⟩,by dsimp only;omega⟩
  ·have hxx:¬(x:Int)<aa:=by omega
   simp -implicitDefEqProofs -dsimp only[ah,hxx,vcS,↓vcQ,simprocAttr]
   obtain rfl:x=aa:=by omega
   rw[kU (by omega) (by omega) hM fun i hi=>hout (by omega)] at j2
   exact ⟨j3.1,h _ p hp j2 j3⟩
def s6:RC:=(.seq (SR [MV 27 12,MV 28 1,BT 29 .lss 27 28] [0,1,2,3,4,11,12,29] (.cond (.t 29) .skip (.ext 0))) (.seq (.blk 1 (SR [OP 32 (.call 40 []),OP 13 (.alloc [.int .i32 0,.int .u16 0,.int .u8 0]),SA 3 13 32] [0,1,2,3,4,11,12,13] (.seq (SR [MV 33 12,MV 34 4,BT 35 .sub 33 34,MV 36 3,BT 37 .geq 35 36] [0,1,2,3,4,11,12,13,37] (.cond (.t 37) (.reg [MV 38 0,MV 39 2,MV 40 1,BT 41 .mul 39 40,MV 42 12,BT 43 .add 41 42,MV 44 4,BT 45 .sub 43 44,OP 46 (.aT 3 (.t 38) (.t 45)),LT 47 3 46,SA 3 13 47] 0 [0,1,2,3,4,11,12,13]) .skip)) (.reg [MV 48 11,MV 49 2,MV 50 1,BT 51 .mul 49 50,MV 52 12,BT 53 .add 51 52,LT 54 3 13,OP 55 (.aT 3 (.t 48) (.t 53)),SA 3 55 54] 0 [0,1,2,3,4,11,12])))) (.reg [MV 30 12,BI 31 .add 30 1,MV 12 31] 0 [0,1,2,3,4,11,12])))
def oS:RFn:=⟨5,60,(SR [OP 10 (.mov (.c (.sl 0 [] .nil)))] [0,1,2,3,4] (SR [MV 14 0,OP 15 (.call 79 [.t 14]),MV 11 15] [0,1,2,3,4,11] (.seq (SR [MV 16 0,MV 17 1,MV 18 2,MV 19 3,OP 20 (.call 88 [.t 16,.t 17,.t 18,.t 19]),OP 21 (.un .not (.t 20))] [0,1,2,3,4,11,21] (.cond (.t 21) (SR [MV 22 11,MV 10 22] [10] .ret) .skip)) (SR [MV 23 4,OP 24 (.mm true (.t 23) (.c (.int .i64 0))),OP 25 (.mm false (.t 24) (.c (.int .i64 1000))),MV 4 25] [0,1,2,3,4,11] (.seq (SR [MV 26 3,MV 12 26] [0,1,2,3,4,11,12] (.blk 0 (.loop s6))) (SR [MV 56 11,MV 57 1,MV 58 2,OP 59 (.call 53 [.t 56,.t 57,.t 58]),MV 10 59] [10] .ret)))))),[.t 10]⟩
theorem BD:aK PG.P (aA PG.P 120 oS) 120=some oS:=by kernel_rfl
def s7:RC:=(.seq (SR [MV 27 12,MV 28 1,BT 29 .lss 27 28] [0,1,2,4,11,12,29] (.cond (.t 29) .skip (.ext 0))) (.seq (.blk 1 (SR [OP 32 (.call 40 []),OP 13 (.alloc [.int .i32 0,.int .u16 0,.int .u8 0]),SA 3 13 32] [0,1,2,4,11,12,13] (.seq (SR [MV 33 12,MV 34 4,BT 35 .add 33 34,MV 36 1,BT 37 .lss 35 36] [0,1,2,4,11,12,13,37] (.cond (.t 37) (.reg [MV 38 0,MV 39 2,MV 40 1,BT 41 .mul 39 40,MV 42 12,BT 43 .add 41 42,MV 44 4,BT 45 .add 43 44,OP 46 (.aT 3 (.t 38) (.t 45)),LT 47 3 46,SA 3 13 47] 0 [0,1,2,4,11,12,13]) .skip)) (.reg [MV 48 11,MV 49 2,MV 50 1,BT 51 .mul 49 50,MV 52 12,BT 53 .add 51 52,LT 54 3 13,OP 55 (.aT 3 (.t 48) (.t 53)),SA 3 55 54] 0 [0,1,2,4,11,12])))) (.reg [MV 30 12,BI 31 .add 30 1,MV 12 31] 0 [0,1,2,4,11,12])))
def oT:RFn:=⟨5,60,(SR [OP 10 (.mov (.c (.sl 0 [] .nil)))] [0,1,2,3,4] (SR [MV 14 0,OP 15 (.call 79 [.t 14]),MV 11 15] [0,1,2,3,4,11] (.seq (SR [MV 16 0,MV 17 1,MV 18 2,MV 19 3,OP 20 (.call 88 [.t 16,.t 17,.t 18,.t 19]),OP 21 (.un .not (.t 20))] [0,1,2,3,4,11,21] (.cond (.t 21) (SR [MV 22 11,MV 10 22] [10] .ret) .skip)) (SR [MV 23 4,OP 24 (.mm true (.t 23) (.c (.int .i64 0))),OP 25 (.mm false (.t 24) (.c (.int .i64 1000))),MV 4 25] [0,1,2,3,4,11] (.seq (SR [MV 26 3,MV 12 26] [0,1,2,4,11,12] (.blk 0 (.loop s7))) (SR [MV 56 11,MV 57 1,MV 58 2,OP 59 (.call 53 [.t 56,.t 57,.t 58]),MV 10 59] [10] .ret)))))),[.t 10]⟩
theorem BE:aK PG.P (aA PG.P 121 oT) 121=some oT:=by kernel_rfl
def uQ:RC:=(.seq (SR [MV 30 12,MV 31 4,BT 32 .lss 30 31] [1,2,4,11,12,32] (.cond (.t 32) .skip (.ext 0))) (.seq (.blk 1 (.reg [MV 35 11,MV 36 2,MV 37 1,BT 38 .mul 36 37,MV 39 12,BT 40 .add 38 39,OP 41 (.call 40 []),OP 42 (.aT 3 (.t 35) (.t 40)),SA 3 42 41] 0 [1,2,4,11,12])) (.reg [MV 33 12,BI 34 .add 33 1,MV 12 34] 0 [1,2,4,11,12])))
def rP:RFn:=⟨5,47,(SR [OP 10 (.mov (.c (.sl 0 [] .nil)))] [0,1,2,3,4] (SR [MV 13 0,OP 14 (.call 79 [.t 13]),MV 11 14] [0,1,2,3,4,11] (.seq (SR [MV 15 0,MV 16 1,MV 17 2,OP 18 (.call 88 [.t 15,.t 16,.t 17,.c (.int .i64 0)]),OP 19 (.un .not (.t 18))] [1,2,3,4,11,19] (.cond (.t 19) (SR [MV 20 11,MV 10 20] [10] .ret) .skip)) (SR [MV 21 3,OP 22 (.mm true (.t 21) (.c (.int .i64 0))),MV 23 1,OP 24 (.mm false (.t 22) (.t 23)),MV 25 4,OP 26 (.mm true (.t 25) (.c (.int .i64 0))),MV 27 1,OP 28 (.mm false (.t 26) (.t 27)),MV 3 24,MV 4 28] [1,2,3,4,11] (.seq (SR [MV 29 3,MV 12 29] [1,2,4,11,12] (.blk 0 (.loop uQ))) (SR [MV 43 11,MV 44 1,MV 45 2,OP 46 (.call 53 [.t 43,.t 44,.t 45]),MV 10 46] [10] .ret)))))),[.t 10]⟩
theorem Eh:aK PG.P (aA PG.P 122 rP) 122=some rP:=by kernel_rfl
theorem NX {R S:List Ce}(g:bU L rows aa)(hy:y<rows)(hR:R.length=aa)(hS:S.length=aa):kP (kP L aa y R) aa y S=kP L aa y S:=by
 have gp:bU (kP L aa y R) rows aa:=g.ej (fO g hy hR)
 refine dM (by rw[fO gp hy hS,fO g hy hS,fO g hy hR]) fun i _=>?_
 rw[iI gp hy hS,iI g hy hS,iI g hy hR]
 split
 ·rfl
 ·split
  ·rfl
  ·rfl
theorem Hl {R:List Ce}(g:bU L rows aa)(hy:y<rows)(hR:R.length=aa):cO (kP L aa y R) aa y=kP L aa y (fh R):=by
 unfold cO
 rw[mb g hy hy hR,if_pos rfl,NX g hy hR (by rw[bQ,hR])]
theorem RV {A B:List Ce}{j:Nat}(g:bU L rows aa)(hy:y<rows)(hA:A=(cM L aa y).take x)(hB:B.length=aa-x)(hx:x<=aa) :
  (kP L aa y (A++B)).getD j aM=if y*aa+x<=j/\j<y*aa+aa then B.getD (j-(y*aa+x)) aM else L.getD j aM:=by
 have hl:=bG g hy
 have s1:=bx y aa
 have hAl:A.length=x:=by rw[hA,List.length_take,hl];omega
 rw[iI g hy (by rw[List.length_append,hAl,hB];omega)]
 rcases Nat.lt_or_ge j (y*aa) with h1 | h1
 ·rw[if_pos h1,if_neg (by omega)]
 ·rw[if_neg (by omega)]
  rcases Nat.lt_or_ge j ((y+1)*aa) with h2 | h2
  ·rw[if_pos h2,oh,hAl]
   rcases Nat.lt_or_ge j (y*aa+x) with h3 | h3
   ·rw[if_pos (by omega),if_neg (by omega),hA,eB,if_pos (by omega),cU g hy (by omega)]
    congr 1;omega
   ·rw[if_neg (by omega),if_pos (by omega)]
    congr 1;omega
  ·rw[if_neg (by omega),if_neg (by omega)]
set_option maxHeartbeats 1000000 in
theorem MP {k:SK}{n:Int}(hs:sz=3)(g:bU L rows aa)(hy:y<rows)(hx:x<=aa)
  (h:∀T',ax T T' []->K (.sl 3 (aq (BZ L aa y x n)) .any) T'):aj PG 120 [.sl sz (aq L) k,.int .i64 aa,.int .i64 y,.int .i64 x,.int .i64 n] T K:=by
 subst hs
 have h1:=g.r
 have h2:=g.c
 have hl:=g.lim
 have hgl:L.length=rows*aa:=g.len
 have hrow:=cY (aa:=aa) hy
 have ys:=bx y aa
 have hrl:=bG g hy
 obtain ⟨N,eN⟩:∃N,N=bz n:=⟨_,rfl⟩
 have hn:min (max n 0) 1000=(N:Int):=by unfold bz at eN;omega
 have hN:N<=1000:=by unfold bz at eN;omega
 have hB:(oO N ((cM L aa y).drop x)).length=aa-x:=by rw[kG,List.length_drop,hrl]
 have hAB:((cM L aa y).take x++oO N ((cM L aa y).drop x)).length=aa:=by rw[List.length_append,hB,List.length_take,hrl];omega
 obtain ⟨M,eM⟩:∃M,M=kP L aa y ((cM L aa y).take x++oO N ((cM L aa y).drop x)):=⟨_,rfl⟩
 have hM:M.length=L.length:=by rw[eM];exact fO g hy hAB
 have gM:bU M rows aa:=g.ej hM
 have eV:cO M aa y=BZ L aa y x n:=by rw[eM,Hl g hy hAB,eN];rfl
 have KA:∀j,M.getD j aM=if y*aa+x<=j/\j<y*aa+aa then (oO N ((cM L aa y).drop x)).getD (j-(y*aa+x)) aM else L.getD j aM:=fun j=>by rw[eM];exact RV g hy rfl hB hx
 rw[<-eV] at h
 clear eV eM hAB
 have hat:∀i,x<=i->i<aa->M.getD (y*aa+i) aM=if x+N<=i then L.getD (y*aa+i-N) aM else aM:=fun i hi1 hi2=>by
  rw[KA,if_pos (by omega),rI (by rw[List.length_drop,hrl];omega)]
  rcases Decidable.em (x+N<=i) with e | e
  ·rw[if_pos (by omega),if_pos e,dQ,cU g hy (by omega)]
   congr 1;omega
  ·rw[if_neg (by omega),if_neg e]
 have hout:∀j,¬(y*aa+x<=j/\j<y*aa+aa)->M.getD j aM=L.getD j aM:=fun j hj=>by rw[KA,if_neg hj]
 clear KA hB
 obtain ⟨R,eR⟩:∃R,R=y*aa:=⟨_,rfl⟩
 have wR:IntKind.i64.wrap ((y:Int)*aa)=(R:Int):=by
  have:(y:Int)*aa=(R:Int):=by rw[eR];simp
  rw[this];exact aO (by omega) (by omega)
 rw[<-eR] at hat hout
 refine aj.fq FOk.nil BD (by simp[oS]) ?_
 unfold oS
 dsimp only
 simp -implicitDefEqProofs -dsimp only[ah,vcS,↓vcQ,simprocAttr]
 refine oK rfl hl.2 hl.1 fun T1 p hp hA k1=>?_
 simp -implicitDefEqProofs -dsimp only[ah,vcS,↓vcQ,simprocAttr]
 refine uv g hy hx ?_
 simp -implicitDefEqProofs -dsimp only[ah,hn,vcS,↓vcQ,simprocAttr]
 refine bk.inv FOk.nil (S:=fun s:Nat × ay=>⟨[(0,.sl 3 (aq L) k),(1,.int .i64 aa),(2,.int .i64 y),(3,.int .i64 x),(4,.int .i64 N),(11,.own p 0 L.length),(12,.int .i64 s.1)],s.2⟩)
  (I:=fun s=>x<=s.1/\s.1<=aa/\s.2[p]?=some (some (.arr 3 (aq (e9 L M (R+x) (R+s.1)))))/\ax T s.2 [])
  (μ:=fun s=>aa-s.1) (x,T1) ⟨Nat.le_refl _,hx,by rw[kS];exact hA,k1⟩ ?_ ?_
 ·simp -implicitDefEqProofs -dsimp only[an,vcS,↓vcQ,simprocAttr]
 ·intro ⟨i,B⟩ ⟨j0,j1,j2,j3⟩
  dsimp only at j0 j1 j2 j3 ⊢
  unfold s6
  rcases Nat.lt_or_ge i aa with hi | hi
  ·have hxx:(i:Int)<aa:=by omega
   have wx:IntKind.i64.wrap ((i:Int)+1)=((i+1:Nat):Int):=by rw[aO (by omega) (by omega)];omega
   have wS:IntKind.i64.wrap ((R:Int)+i)=((R+i:Nat):Int):=by rw[aO (by omega) (by omega)];omega
   obtain ⟨zi,ezi⟩:∃zi:Int,zi=(i:Int)-N:=⟨_,rfl⟩
   have wz:IntKind.i64.wrap ((i:Int)-N)=zi:=by rw[aO (by omega) (by omega)];omega
   simp -implicitDefEqProofs -dsimp only[ah,hxx,vcS,↓vcQ,simprocAttr]
   refine fc fun B1 kb=>?_
   have j2':=kb.at j2 (by simp)
   have kB:ax T B1 []:=j3.new kb (by simp)
   have lm:=gk (L:=L) (M:=M) (a:=R+x) (b:=R+i) (by omega) (by omega) hM
   have jf:=hat i j0 hi
   have b0:(0:Int)<=((R+i:Nat):Int):=by omega
   have b1:((R+i:Nat):Int)<L.length:=by omega
   have hg:=bf (L:=e9 L M (R+x) (R+i)) (i:=R+i) (by omega)
   rw[show aM.row=[.int .i32 32,.int .u16 0,.int .u8 0] from rfl]
   rcases Decidable.em (x+N<=i) with hz | hz
   ·have hzz:(x:Int)<=zi:=by omega
    rw[if_pos hz] at jf
    obtain ⟨Q,eQ⟩:∃Q,Q=R+i-N:=⟨_,rfl⟩
    rw[<-eQ] at jf
    have wQ:IntKind.i64.wrap (((R+i:Nat):Int)-N)=(Q:Int):=by rw[aO (by omega) (by omega)];omega
    have d0:(0:Int)<=(Q:Int):=by omega
    have d1:(Q:Int)<L.length:=by omega
    have hg2:=bf (L:=L) (i:=Q) (by omega)
    have bY:=bM (e9 L M (R+x) (R+i)) (R+i) (L.getD Q aM)
    rw[fG (by omega) (by omega) hM jf.symm] at bY
    generalize L.getD Q aM=c at *
    simp -implicitDefEqProofs -dsimp only[ah,ai j2',hxx,wz,hzz,wQ,d0,d1,hg2,az,wR,wS,wx,b0,b1,hg,bY,an,vcS,↓vcQ,simprocAttr]
    exact ⟨(i+1,_),⟨rfl,aH _⟩,⟨by dsimp only;omega,hi,hO (bZ j2' _) _,((kB.put (Dd.ge hp) _).dU _)⟩,by dsimp only;omega⟩
   ·have hzz:¬(x:Int)<=zi:=by omega
    rw[if_neg hz] at jf
    have bY:=bM (e9 L M (R+x) (R+i)) (R+i) aM
    rw[fG (by omega) (by omega) hM jf.symm] at bY
    change (aq (e9 L M (R+x) (R+i))).set (R+i) [.int .i32 32,.int .u16 0,.int .u8 0]=_ at bY
    simp -implicitDefEqProofs -dsimp only[ah,ai j2',hxx,wz,eq_false hzz,wR,wS,wx,b0,b1,hg,bY,an,vcS,↓vcQ,simprocAttr]
    exact ⟨(i+1,_),⟨rfl,aH _⟩,⟨by dsimp only;omega,hi,hO (bZ j2' _) _,((kB.put (Dd.ge hp) _).dU _)⟩,by dsimp only;omega⟩
  ·have hxx:¬(i:Int)<aa:=by omega
   obtain rfl:i=aa:=by omega
   rw[kU (by omega) (by omega) hM fun j hj=>hout j (by omega)] at j2
   simp -implicitDefEqProofs -dsimp only[ah,ai j2,hxx,az,hM,Nat.le_refl,List.take_length,vcS,↓vcQ,simprocAttr]
   rw[<-hM]
   refine ux j2 gM hy fun T2 p2 hp2 hA2 k2=>?_
   simp -implicitDefEqProofs -dsimp only[ah,vcS,↓vcQ,simprocAttr]
   exact OR hA2 (fH gM hy).symm (j3.new k2 (by simp)) (by have:=j3.1;omega) h
set_option maxHeartbeats 1000000 in
theorem MQ {k:SK}{n:Int}(hs:sz=3)(g:bU L rows aa)(hy:y<rows)(hx:x<=aa)
  (h:∀T',ax T T' []->K (.sl 3 (aq (B5 L aa y x n)) .any) T'):aj PG 121 [.sl sz (aq L) k,.int .i64 aa,.int .i64 y,.int .i64 x,.int .i64 n] T K:=by
 subst hs
 have h1:=g.r
 have h2:=g.c
 have hl:=g.lim
 have hgl:L.length=rows*aa:=g.len
 have hrow:=cY (aa:=aa) hy
 have ys:=bx y aa
 have hrl:=bG g hy
 obtain ⟨N,eN⟩:∃N,N=bz n:=⟨_,rfl⟩
 have hn:min (max n 0) 1000=(N:Int):=by unfold bz at eN;omega
 have hN:N<=1000:=by unfold bz at eN;omega
 have hB:(oN N ((cM L aa y).drop x)).length=aa-x:=by rw[kE,List.length_drop,hrl]
 have hAB:((cM L aa y).take x++oN N ((cM L aa y).drop x)).length=aa:=by rw[List.length_append,hB,List.length_take,hrl];omega
 obtain ⟨M,eM⟩:∃M,M=kP L aa y ((cM L aa y).take x++oN N ((cM L aa y).drop x)):=⟨_,rfl⟩
 have hM:M.length=L.length:=by rw[eM];exact fO g hy hAB
 have gM:bU M rows aa:=g.ej hM
 have eV:cO M aa y=B5 L aa y x n:=by rw[eM,Hl g hy hAB,eN];rfl
 have KA:∀j,M.getD j aM=if y*aa+x<=j/\j<y*aa+aa then (oN N ((cM L aa y).drop x)).getD (j-(y*aa+x)) aM else L.getD j aM:=fun j=>by rw[eM];exact RV g hy rfl hB hx
 rw[<-eV] at h
 clear eV eM hAB
 have hat:∀i,x<=i->i<aa->M.getD (y*aa+i) aM=if i+N<aa then L.getD (y*aa+i+N) aM else aM:=fun i hi1 hi2=>by
  rw[KA,if_pos (by omega),rH (by rw[List.length_drop,hrl];omega),List.length_drop,hrl]
  rcases Decidable.em (i+N<aa) with e | e
  ·rw[if_pos (by omega),if_pos e,dQ,cU g hy (by omega)]
   congr 1;omega
  ·rw[if_neg (by omega),if_neg e]
 have hout:∀j,¬(y*aa+x<=j/\j<y*aa+aa)->M.getD j aM=L.getD j aM:=fun j hj=>by rw[KA,if_neg hj]
 clear KA hB
 obtain ⟨R,eR⟩:∃R,R=y*aa:=⟨_,rfl⟩
 have wR:IntKind.i64.wrap ((y:Int)*aa)=(R:Int):=by
  have:(y:Int)*aa=(R:Int):=by rw[eR];simp
  rw[this];exact aO (by omega) (by omega)
 rw[<-eR] at hat hout
 refine aj.fq FOk.nil BE (by simp[oT]) ?_
 unfold oT
 dsimp only
 simp -implicitDefEqProofs -dsimp only[ah,vcS,↓vcQ,simprocAttr]
 refine oK rfl hl.2 hl.1 fun T1 p hp hA k1=>?_
 simp -implicitDefEqProofs -dsimp only[ah,vcS,↓vcQ,simprocAttr]
 refine uv g hy hx ?_
 simp -implicitDefEqProofs -dsimp only[ah,hn,vcS,↓vcQ,simprocAttr]
 refine bk.inv FOk.nil (S:=fun s:Nat × ay=>⟨[(0,.sl 3 (aq L) k),(1,.int .i64 aa),(2,.int .i64 y),(4,.int .i64 N),(11,.own p 0 L.length),(12,.int .i64 s.1)],s.2⟩)
  (I:=fun s=>x<=s.1/\s.1<=aa/\s.2[p]?=some (some (.arr 3 (aq (e9 L M (R+x) (R+s.1)))))/\ax T s.2 [])
  (μ:=fun s=>aa-s.1) (x,T1) ⟨Nat.le_refl _,hx,by rw[kS];exact hA,k1⟩ ?_ ?_
 ·simp -implicitDefEqProofs -dsimp only[an,vcS,↓vcQ,simprocAttr]
 ·intro ⟨i,B⟩ ⟨j0,j1,j2,j3⟩
  dsimp only at j0 j1 j2 j3 ⊢
  unfold s7
  rcases Nat.lt_or_ge i aa with hi | hi
  ·have hxx:(i:Int)<aa:=by omega
   have wx:IntKind.i64.wrap ((i:Int)+1)=((i+1:Nat):Int):=by rw[aO (by omega) (by omega)];omega
   have wS:IntKind.i64.wrap ((R:Int)+i)=((R+i:Nat):Int):=by rw[aO (by omega) (by omega)];omega
   obtain ⟨zi,ezi⟩:∃zi:Int,zi=(i:Int)+N:=⟨_,rfl⟩
   have wz:IntKind.i64.wrap ((i:Int)+N)=zi:=by rw[aO (by omega) (by omega)];omega
   simp -implicitDefEqProofs -dsimp only[ah,hxx,vcS,↓vcQ,simprocAttr]
   refine fc fun B1 kb=>?_
   have j2':=kb.at j2 (by simp)
   have kB:ax T B1 []:=j3.new kb (by simp)
   have lm:=gk (L:=L) (M:=M) (a:=R+x) (b:=R+i) (by omega) (by omega) hM
   have jf:=hat i j0 hi
   have b0:(0:Int)<=((R+i:Nat):Int):=by omega
   have b1:((R+i:Nat):Int)<L.length:=by omega
   have hg:=bf (L:=e9 L M (R+x) (R+i)) (i:=R+i) (by omega)
   rw[show aM.row=[.int .i32 32,.int .u16 0,.int .u8 0] from rfl]
   rcases Decidable.em (i+N<aa) with hz | hz
   ·have hzz:zi<(aa:Int):=by omega
    rw[if_pos hz] at jf
    obtain ⟨Q,eQ⟩:∃Q,Q=R+i+N:=⟨_,rfl⟩
    rw[<-eQ] at jf
    have wQ:IntKind.i64.wrap (((R+i:Nat):Int)+N)=(Q:Int):=by rw[aO (by omega) (by omega)];omega
    have d0:(0:Int)<=(Q:Int):=by omega
    have d1:(Q:Int)<L.length:=by omega
    have hg2:=bf (L:=L) (i:=Q) (by omega)
    have bY:=bM (e9 L M (R+x) (R+i)) (R+i) (L.getD Q aM)
    rw[fG (by omega) (by omega) hM jf.symm] at bY
    generalize L.getD Q aM=c at *
    simp -implicitDefEqProofs -dsimp only[ah,ai j2',hxx,wz,hzz,wQ,d0,d1,hg2,az,wR,wS,wx,b0,b1,hg,bY,an,vcS,↓vcQ,simprocAttr]
    exact ⟨(i+1,_),⟨rfl,aH _⟩,⟨by dsimp only;omega,hi,hO (bZ j2' _) _,((kB.put (Dd.ge hp) _).dU _)⟩,by dsimp only;omega⟩
   ·have hzz:¬zi<(aa:Int):=by omega
    rw[if_neg hz] at jf
    have bY:=bM (e9 L M (R+x) (R+i)) (R+i) aM
    rw[fG (by omega) (by omega) hM jf.symm] at bY
    change (aq (e9 L M (R+x) (R+i))).set (R+i) [.int .i32 32,.int .u16 0,.int .u8 0]=_ at bY
    simp -implicitDefEqProofs -dsimp only[ah,ai j2',hxx,wz,eq_false hzz,wR,wS,wx,b0,b1,hg,bY,an,vcS,↓vcQ,simprocAttr]
    exact ⟨(i+1,_),⟨rfl,aH _⟩,⟨by dsimp only;omega,hi,hO (bZ j2' _) _,((kB.put (Dd.ge hp) _).dU _)⟩,by dsimp only;omega⟩
  ·have hxx:¬(i:Int)<aa:=by omega
   obtain rfl:i=aa:=by omega
   rw[kU (by omega) (by omega) hM fun j hj=>hout j (by omega)] at j2
   simp -implicitDefEqProofs -dsimp only[ah,ai j2,hxx,az,hM,Nat.le_refl,List.take_length,vcS,↓vcQ,simprocAttr]
   rw[<-hM]
   refine ux j2 gM hy fun T2 p2 hp2 hA2 k2=>?_
   simp -implicitDefEqProofs -dsimp only[ah,vcS,↓vcQ,simprocAttr]
   exact OR hA2 (fH gM hy).symm (j3.new k2 (by simp)) (by have:=j3.1;omega) h
def Ed:RFn:=⟨3,15,(SR [MB 6 false] [0,1,2] (SR [MV 7 0,MV 8 1,BT 9 .geq 7 8,MV 10 9,MG 11 0 10 true,MG 12 2 10 true,OG 13 (.bin .leq (.t 11) (.t 12)) 10 true,OP 14 (.pick (.t 10) (.t 13) (.c (.bool false))),MV 6 14] [6] .ret)),[.t 6]⟩
theorem NQ:aK PG.P (aA PG.P 134 Ed) 134=some Ed:=by kernel_rfl
def uP:RC:=(.seq (SR [MV 29 4,MV 30 3,OP 31 (.len (.t 30)),BT 32 .lss 29 31] [0,3,4,32] (.cond (.t 32) .skip (.ext 0))) (.seq (.blk 1 (.seq (.cJ (.take (MV 35 0) [] (.take (MV 36 3) [] (.take (MV 37 4) [] (.take (OP 38 (.aT 1 (.t 36) (.t 37))) [] (.take (LD 39 38) [] (.take (MV 40 3) [] (.take (MV 41 4) [] (.take (BI 42 .add 41 1) [] (.take (OP 43 (.aT 1 (.t 40) (.t 42))) [] (.take (LD 44 43) [] (.mid (OP 45 (.call 134 [.t 35,.t 39,.t 44])) .done))))))))))) 0 [0,3,4,45]) (.cond (.t 45) (SR [OP 2 (.mov (.c (.int .i64 2)))] [2] .ret) .skip))) (.reg [MV 33 4,BI 34 .add 33 2,MV 4 34] 0 [0,3,4])))
def dP:RFn:=⟨1,46,(SR [OP 2 (.mov (.c (.int .i64 0)))] [0] (.seq (SR [MV 5 0,OP 6 (.call 87 [.t 5]),OP 7 (.un .not (.t 6)),MV 8 7,MG 9 0 8 false,OG 10 (.bin .lss (.t 9) (.c (.int .i32 32))) 8 false,OP 11 (.pick (.t 8) (.c (.bool true)) (.t 10)),MV 12 11,MG 13 0 12 false,OG 14 (.call 134 [.t 13,.c (.int .i32 127),.c (.int .i32 159)]) 12 false,OP 15 (.pick (.t 12) (.c (.bool true)) (.t 14)),MV 16 15,MG 17 0 16 false,OG 18 (.call 134 [.t 17,.c (.int .i32 768),.c (.int .i32 879)]) 16 false,OP 19 (.pick (.t 16) (.c (.bool true)) (.t 18)),MV 20 19,MG 21 0 20 false,OG 22 (.call 134 [.t 21,.c (.int .i32 8203),.c (.int .i32 8207)]) 20 false,OP 23 (.pick (.t 20) (.c (.bool true)) (.t 22)),MV 24 23,MG 25 0 24 false,OG 26 (.call 134 [.t 25,.c (.int .i32 65024),.c (.int .i32 65039)]) 24 false,OP 27 (.pick (.t 24) (.c (.bool true)) (.t 26))] [0,27] (.cond (.t 27) (SR [OP 2 (.mov (.c (.int .i64 0)))] [2] .ret) .skip)) (SR [OP 28 (.bK 1 [.int .i32 0] 30 [(0,(.c (.int .i32 4352))),(1,(.c (.int .i32 4447))),(2,(.c (.int .i32 11904))),(3,(.c (.int .i32 12350))),(4,(.c (.int .i32 12353))),(5,(.c (.int .i32 13311))),(6,(.c (.int .i32 13312))),(7,(.c (.int .i32 19903))),(8,(.c (.int .i32 19968))),(9,(.c (.int .i32 40959))),(10,(.c (.int .i32 40960))),(11,(.c (.int .i32 42191))),(12,(.c (.int .i32 44032))),(13,(.c (.int .i32 55203))),(14,(.c (.int .i32 63744))),(15,(.c (.int .i32 64255))),(16,(.c (.int .i32 65072))),(17,(.c (.int .i32 65135))),(18,(.c (.int .i32 65280))),(19,(.c (.int .i32 65376))),(20,(.c (.int .i32 65504))),(21,(.c (.int .i32 65510))),(22,(.c (.int .i32 127744))),(23,(.c (.int .i32 128591))),(24,(.c (.int .i32 129280))),(25,(.c (.int .i32 129535))),(26,(.c (.int .i32 131072))),(27,(.c (.int .i32 196605))),(28,(.c (.int .i32 196608))),(29,(.c (.int .i32 262141)))]),MV 3 28] [0,3] (.seq (SR [OP 4 (.mov (.c (.int .i64 0)))] [0,3,4] (.blk 0 (.loop uP))) (SR [OP 2 (.mov (.c (.int .i64 1)))] [2] .ret))))),[.t 2]⟩
theorem gz:aK PG.P (aA PG.P 113 dP) 113=some dP:=by kernel_rfl
def jl:RFn:=⟨3,23,(SR [OP 6 (.mov (.c (.int .i64 0)))] [0,1,2] (.seq (SR [MV 7 1,MV 8 0,OP 9 (.len (.t 8)),BT 10 .geq 7 9,MV 11 10,MG 12 0 11 false,MG 13 1 11 false,OG 14 (.aT 1 (.t 12) (.t 13)) 11 false,LG 15 14 11 false,OG 16 (.bin .eql (.t 15) (.c (.int .i64 0))) 11 false,OP 17 (.pick (.t 11) (.c (.bool true)) (.t 16))] [0,1,2,17] (.cond (.t 17) (SR [MV 18 2,MV 6 18] [6] .ret) .skip)) (SR [MV 19 0,MV 20 1,OP 21 (.aT 1 (.t 19) (.t 20)),LD 22 21,MV 6 22] [6] .ret))),[.t 6]⟩
theorem oR:aK PG.P (aA PG.P 116 jl) 116=some jl:=by kernel_rfl
def cE:RFn:=⟨2,77,(SR [OP 4 (.mov (.c (.int .u16 0)))] [0,1] (.seq (.blk 0 (SR [MV 6 1,BI 7 .eql 6 0,MV 5 7] [0,1,5] (.cond (.t 5) (SR [OP 4 (.mov (.c (.int .u16 0)))] [4] .ret) (SR [MV 9 1,BI 10 .eql 9 1,MV 8 10] [0,1,8] (.cond (.t 8) (SR [MV 11 0,OP 12 (.bin .or (.t 11) (.c (.int .u16 1))),MV 4 12] [4] .ret) (SR [MV 14 1,BI 15 .eql 14 4,MV 13 15] [0,1,13] (.cond (.t 13) (SR [MV 16 0,OP 17 (.bin .or (.t 16) (.c (.int .u16 2))),MV 4 17] [4] .ret) (SR [MV 19 1,BI 20 .eql 19 7,MV 18 20] [0,1,18] (.cond (.t 18) (SR [MV 21 0,OP 22 (.bin .or (.t 21) (.c (.int .u16 4))),MV 4 22] [4] .ret) (SR [MV 24 1,BI 25 .eql 24 22,MV 23 25] [0,1,23] (.cond (.t 23) (SR [MV 26 0,OP 27 (.bin .andNot (.t 26) (.c (.int .u16 1))),MV 4 27] [4] .ret) (SR [MV 29 1,BI 30 .eql 29 24,MV 28 30] [0,1,28] (.cond (.t 28) (SR [MV 31 0,OP 32 (.bin .andNot (.t 31) (.c (.int .u16 2))),MV 4 32] [4] .ret) (SR [MV 34 1,BI 35 .eql 34 27,MV 33 35] [0,1,33] (.cond (.t 33) (SR [MV 36 0,OP 37 (.bin .andNot (.t 36) (.c (.int .u16 4))),MV 4 37] [4] .ret) (SR [MV 39 1,BI 40 .geq 39 30,MV 41 40,MG 42 1 41 true,OG 43 (.bin .leq (.t 42) (.c (.int .i64 37))) 41 true,OP 44 (.pick (.t 41) (.t 43) (.c (.bool false))),MV 38 44] [0,1,38] (.cond (.t 38) (SR [MV 45 0,OP 46 (.bin .andNot (.t 45) (.c (.int .u16 240))),MV 47 1,BI 48 .sub 47 29,OP 49 (.conv (.i2i .u16) (.t 48)),OP 50 (.bin .shl (.t 49) (.c (.int .u64 4))),BT 51 .or 46 50,MV 4 51] [4] .ret) (SR [MV 53 1,BI 54 .eql 53 39,MV 52 54] [0,1,52] (.cond (.t 52) (SR [MV 55 0,OP 56 (.bin .andNot (.t 55) (.c (.int .u16 240))),MV 4 56] [4] .ret) (SR [MV 58 1,BI 59 .geq 58 40,MV 60 59,MG 61 1 60 true,OG 62 (.bin .leq (.t 61) (.c (.int .i64 47))) 60 true,OP 63 (.pick (.t 60) (.t 62) (.c (.bool false))),MV 57 63] [0,1,57] (.cond (.t 57) (SR [MV 64 0,OP 65 (.bin .andNot (.t 64) (.c (.int .u16 3840))),MV 66 1,BI 67 .sub 66 39,OP 68 (.conv (.i2i .u16) (.t 67)),OP 69 (.bin .shl (.t 68) (.c (.int .u64 8))),BT 70 .or 65 69,MV 4 70] [4] .ret) (SR [MV 72 1,BI 73 .eql 72 49,MV 71 73] [0,71] (.cond (.t 71) (SR [MV 74 0,OP 75 (.bin .andNot (.t 74) (.c (.int .u16 3840))),MV 4 75] [4] .ret) .skip))))))))))))))))))))))) (SR [MV 76 0,MV 4 76] [4] .ret))),[.t 4]⟩
theorem dR:aK PG.P (aA PG.P 123 cE) 123=some cE:=by kernel_rfl
def TR0:FL:=[]
theorem acf:FOk PG (tab TR0):=FOk.nil
theorem acE {a:Int}{b:Int}(adn:-2147483648<=r/\r<=2147483647)(adp:-2147483648<=a/\a<=2147483647)(mW:-2147483648<=b/\b<=2147483647) :
  av PG 134 [.int .i32 r,.int .i32 a,.int .i32 b] fun n RR OO=>RR=(((.bool (inR r a b),[])):DV × ay).1/\OO=(((.bool (inR r a b),[])):DV × ay).2:=by
 refine av.di (res:=fun n=>((.bool (inR r a b),[]))) acf NQ (by simp[Ed]) fun n=>?_
 unfold Ed
 dsimp only
 simp -implicitDefEqProofs -dsimp only[vcS,↓vcQ,simprocAttr]
 unfold inR
 simp
 omega
def IZ:List DV->Option aS
 | [.int .i32 r,.int .i32 a,.int .i32 b]=>some ⟨(-2147483648<=r/\r<=2147483647)/\(-2147483648<=a/\a<=2147483647)/\(-2147483648<=b/\b<=2147483647)/\True,fun n=>((.bool (inR r a b),[]))⟩
 | _=>none
theorem kz (r:Int)(a:Int)(b:Int):IZ [.int .i32 r,.int .i32 a,.int .i32 b]=some ⟨(-2147483648<=r/\r<=2147483647)/\(-2147483648<=a/\a<=2147483647)/\(-2147483648<=b/\b<=2147483647)/\True,fun n=>((.bool (inR r a b),[]))⟩:=ak _
theorem aau (args:List DV)(s:aS)(hs:IZ args=some s)(hp:s.pre):av PG 134 args fun n r os=>r=(s.res n).1/\os=(s.res n).2:=by
 unfold IZ at hs
 split at hs
 ·rename_i r a b
  obtain rfl:=sj hs
  obtain ⟨adn,adp,mW,hp⟩:=hp
  have this:=acE adn adp mW
  exact this
 ·cases hs
def TR7:FL:=(134,.o IZ)::[(87,.o qZ)]
theorem nH:FOk PG (tab TR7):=FOk.cons (FOk.cons FOk.nil SU) aau
theorem nI (args:List DV):tab TR7 134 args=(IZ args).map .o:=ak _
theorem jc (args:List DV):tab TR7 87 args=(qZ args).map .o:=ak _
theorem gG (r:Int):may r=vJ r:=by
 unfold may vJ
 rw[Bool.eq_iff_iff]
 simp only[Bool.and_eq_true,Bool.or_eq_true,decide_eq_true_eq]
 omega
def F2:List Int:=[0x1100,0x115f,0x2e80,0x303e,0x3041,0x33ff,0x3400,0x4dbf,0x4e00,0x9fff,0xa000,0xa4cf,0xac00,0xd7a3,0xf900,0xfaff,0xfe30,0xfe6f,0xff00,0xff60,0xffe0,0xffe6,0x1f300,0x1f64f,0x1f900,0x1f9ff,0x20000,0x2fffd,0x30000,0x3fffd]
theorem F1:∀j<15,F2.getD (2*j) 0=(iN.getD j (0,0)).1/\F2.getD (2*j+1) 0=(iN.getD j (0,0)).2:=by decide
theorem Qt:∀j<15,(-2147483648<=(iN.getD j (0,0)).1/\(iN.getD j (0,0)).1<=2147483647)/\(-2147483648<=(iN.getD j (0,0)).2/\(iN.getD j (0,0)).2<=2147483647):=by decide
theorem MX {j:Nat}(hj:j<15)(h:inR r (iN.getD j (0,0)).1 (iN.getD j (0,0)).2=true):iN.any (fun p=>inR r p.1 p.2)=true:=by
 refine List.any_eq_true.2 ⟨iN.getD j (0,0), ?_,h⟩
 rw[List.getD_eq_getElem?_getD,List.getElem?_eq_getElem (show j<iN.length from hj)]
 exact List.getElem_mem _
theorem Jf (h:∀j<15,inR r (iN.getD j (0,0)).1 (iN.getD j (0,0)).2=false):iN.any (fun p=>inR r p.1 p.2)=false:=by
 rw[List.any_eq_false]
 intro p hp
 obtain ⟨j,hj,e⟩:=List.getElem_of_mem hp
 have:=h j hj
 rw[List.getD_eq_getElem?_getD,List.getElem?_eq_getElem hj,Option.getD_some,e] at this
 rw[this];simp
set_option maxHeartbeats 1000000 in
theorem FT (hr:-2147483648<=r/\r<=2147483647)(h:∀T',ax T T' []->K (.int .i64 (dB r)) T'):aj PG 113 [.int .i32 r] T K:=by
 have hz:(vJ r=false\/r<32\/inR r 0x7f 0x9f=true\/inR r 0x300 0x36f=true\/inR r 0x200b 0x200f=true\/inR r 0xfe00 0xfe0f=true)->dB r=0:=fun e=>by unfold dB;rw[if_pos e]
 have hn:¬(vJ r=false\/r<32\/inR r 0x7f 0x9f=true\/inR r 0x300 0x36f=true\/inR r 0x200b 0x200f=true\/inR r 0xfe00 0xfe0f=true)->dB r=if iN.any (fun p=>inR r p.1 p.2)=true then 2 else 1:=fun e=>by unfold dB;rw[if_neg e]
 cases e0:vJ r with
 | false=>
  rw[hz (.inl e0)] at h
  refine aj.aE nH gz (by simp[dP]) ?_
  unfold dP
  dsimp only
  simp -implicitDefEqProofs -dsimp only[ah,nI,jc,kz,fU,gG,hr,e0,vcS,↓vcQ,simprocAttr]
  exact h T (ax.refl _ _)
 | true=>
  rcases Decidable.em (r<32) with e1 | e1
  ·skip
   rw[hz (.inr (.inl e1))] at h
   refine aj.aE nH gz (by simp[dP]) ?_
   unfold dP
   dsimp only
   simp -implicitDefEqProofs -dsimp only[ah,nI,jc,kz,fU,gG,hr,e0,e1,vcS,↓vcQ,simprocAttr]
   exact h T (ax.refl _ _)
  ·skip
   cases e2:inR r 127 159 with
   | true=>
    rw[hz (.inr (.inr (.inl e2)))] at h
    refine aj.aE nH gz (by simp[dP]) ?_
    unfold dP
    dsimp only
    simp -implicitDefEqProofs -dsimp only[ah,nI,jc,kz,fU,gG,hr,e0,e1,e2,vcS,↓vcQ,simprocAttr]
    exact h T (ax.refl _ _)
   | false=>
    cases e3:inR r 768 879 with
    | true=>
     rw[hz (.inr (.inr (.inr (.inl e3))))] at h
     refine aj.aE nH gz (by simp[dP]) ?_
     unfold dP
     dsimp only
     simp -implicitDefEqProofs -dsimp only[ah,nI,jc,kz,fU,gG,hr,e0,e1,e2,e3,vcS,↓vcQ,simprocAttr]
     exact h T (ax.refl _ _)
    | false=>
     cases e4:inR r 8203 8207 with
     | true=>
      rw[hz (.inr (.inr (.inr (.inr (.inl e4)))))] at h
      refine aj.aE nH gz (by simp[dP]) ?_
      unfold dP
      dsimp only
      simp -implicitDefEqProofs -dsimp only[ah,nI,jc,kz,fU,gG,hr,e0,e1,e2,e3,e4,vcS,↓vcQ,simprocAttr]
      exact h T (ax.refl _ _)
     | false=>
      cases e5:inR r 65024 65039 with
      | true=>
       rw[hz (.inr (.inr (.inr (.inr (.inr e5)))))] at h
       refine aj.aE nH gz (by simp[dP]) ?_
       unfold dP
       dsimp only
       simp -implicitDefEqProofs -dsimp only[ah,nI,jc,kz,fU,gG,hr,e0,e1,e2,e3,e4,e5,vcS,↓vcQ,simprocAttr]
       exact h T (ax.refl _ _)
      | false=>
       have hn:=hn (by rw[e0,e2,e3,e4,e5];simp;omega)
       refine aj.aE nH gz (by simp[dP]) ?_
       unfold dP
       dsimp only
       simp -implicitDefEqProofs -dsimp only[ah,nI,jc,kz,fU,gG,hr,e0,e1,e2,e3,e4,e5,vcS,↓vcQ,simprocAttr]
       refine bk.inv nH (S:=fun j:Nat=>⟨[(0,.int .i32 r),(3,.own T.length 0 30),(4,.int .i64 (2*j:Nat))],T++ [some (.arr 1 (af .i32 F2))]⟩)
        (I:=fun j=>j<=15/\∀k<j,inR r (iN.getD k (0,0)).1 (iN.getD k (0,0)).2=false) (μ:=fun j=>15-j) 0 ⟨by omega,fun k hk=>absurd hk (by omega)⟩ ?_ ?_
       ·simp -implicitDefEqProofs -dsimp only[an,vcS,↓vcQ,simprocAttr]
        exact aH _
       ·intro j ⟨j1,j2⟩
        unfold uP
        rcases Nat.lt_or_ge j 15 with hj | hj
        ·have hii:((2*j:Nat):Int)<30:=by omega
         have i0:(0:Int)<=((2*j:Nat):Int):=by omega
         have w1:IntKind.i64.wrap (((2*j:Nat):Int)+1)=((2*j+1:Nat):Int):=by rw[aO (by omega) (by omega)];omega
         have w2:IntKind.i64.wrap (((2*j:Nat):Int)+2)=((2*(j+1):Nat):Int):=by rw[aO (by omega) (by omega)];omega
         have k0:(0:Int)<=((2*j+1:Nat):Int):=by omega
         have k1:((2*j+1:Nat):Int)<30:=by omega
         have hl:(af .i32 F2).length=30:=by rw[jI];rfl
         have g1:(af .i32 F2)[2*j]?=some [.int .i32 (iN.getD j (0,0)).1]:=by rw[<-(F1 j hj).1,ng];simp[show 2*j<F2.length by show _<30;omega]
         have g2:(af .i32 F2)[2*j+1]?=some [.int .i32 (iN.getD j (0,0)).2]:=by rw[<-(F1 j hj).2,ng];simp[show 2*j+1<F2.length by show _<30;omega]
         have hw:=Qt j hj
         generalize hW:iN.getD j (0,0)=w at *
         cases e6:inR r w.1 w.2 with
         | true=>
          simp -implicitDefEqProofs -dsimp only[ah,nI,jc,kz,fU,gG,hr,hii,i0,w1,w2,k0,k1,hl,g1,g2,hw,e6,Nat.zero_add,an,vcS,↓vcQ,simprocAttr]
          rw[hn,if_pos (MX hj (by rw[hW];exact e6))] at h
          exact h _ (ax.app _ _ _)
         | false=>
          simp -implicitDefEqProofs -dsimp only[ah,nI,jc,kz,fU,gG,hr,hii,i0,w1,w2,k0,k1,hl,g1,g2,hw,e6,Nat.zero_add,an,vcS,↓vcQ,simprocAttr]
          refine ⟨j+1,rfl,⟨hj,fun k hk=>?_⟩,by omega⟩
          rcases Nat.lt_or_ge k j with h' | h'
          ·exact j2 k h'
          ·obtain rfl:k=j:=by omega
           rw[hW];exact e6
        ·have hii:¬((2*j:Nat):Int)<30:=by omega
         simp -implicitDefEqProofs -dsimp only[ah,nI,jc,kz,fU,gG,hr,hii,an,vcS,↓vcQ,simprocAttr]
         rw[hn,Jf (fun k hk=>j2 k (by omega))] at h
         exact h _ (ax.app _ _ _)
theorem KH {f t:Int}:kY L aa y (cP f aa:Nat) (max (cP f aa) (cP t aa):Nat)=kY L aa y f t:=by
 unfold kY
 have h1:cP ((cP f aa:Nat):Int) aa=cP f aa:=by unfold cP;omega
 have h2:max (cP f aa) (cP ((max (cP f aa) (cP t aa):Nat):Int) aa)=max (cP f aa) (cP t aa):=by unfold cP;omega
 rw[h1,h2]
theorem Qk {k:SK}{f t:Int}(hs:sz=3)(g:bU L rows aa)(hy:y<rows)
  (h:∀T',ax T T' []->K (.sl 3 (aq (kY L aa y f t)) .any) T'):aj PG 122 [.sl sz (aq L) k,.int .i64 aa,.int .i64 y,.int .i64 f,.int .i64 t] T K:=by
 subst hs
 have h1:=g.r
 have h2:=g.c
 have hl:=g.lim
 have hgl:L.length=rows*aa:=g.len
 have hrow:=cY (aa:=aa) hy
 have ys:=bx y aa
 obtain ⟨a,ea⟩:∃a,a=cP f aa:=⟨_,rfl⟩
 obtain ⟨b,eb⟩:∃b,b=cP t aa:=⟨_,rfl⟩
 have ha:min (max f 0) (aa:Int)=(a:Int):=by unfold cP at ea;omega
 have hb:min (max t 0) (aa:Int)=(b:Int):=by unfold cP at eb;omega
 have ac:a<=aa:=by unfold cP at ea;omega
 have bc:b<=aa:=by unfold cP at eb;omega
 have eV:=Ho (L:=L) (a:=a) (b:=max a b) g hy (Nat.le_max_left _ _) (by omega)
 rw[ea,eb,KH,<-ea,<-eb] at eV
 have hM:(gr L (y*aa+a) (y*aa+max a b)).length=L.length:=gq (by omega) (by omega)
 have hat:=fun {i:Nat}=>jh (L:=L) (a:=y*aa+a) (b:=y*aa+max a b) (i:=i) (by omega) (by omega)
 obtain ⟨M,eM⟩:∃M,M=gr L (y*aa+a) (y*aa+max a b):=⟨_,rfl⟩
 rw[<-eM] at eV hM hat
 have gM:bU M rows aa:=g.ej hM
 rw[<-eV] at h
 clear eV eM ea eb
 obtain ⟨R,eR⟩:∃R,R=y*aa:=⟨_,rfl⟩
 have wR:IntKind.i64.wrap ((y:Int)*aa)=(R:Int):=by
  have:(y:Int)*aa=(R:Int):=by rw[eR];simp
  rw[this];exact aO (by omega) (by omega)
 rw[<-eR] at hat
 refine aj.fq FOk.nil Eh (by simp[rP]) ?_
 unfold rP
 dsimp only
 simp -implicitDefEqProofs -dsimp only[ah,vcS,↓vcQ,simprocAttr]
 refine oK rfl hl.2 hl.1 fun T1 p hp hA k1=>?_
 simp -implicitDefEqProofs -dsimp only[ah,vcS,↓vcQ,simprocAttr]
 refine uv (x:=0) g hy (by omega) ?_
 simp -implicitDefEqProofs -dsimp only[ah,ha,hb,vcS,↓vcQ,simprocAttr]
 refine bk.inv FOk.nil (S:=fun s:Nat × ay=>⟨[(1,.int .i64 aa),(2,.int .i64 y),(4,.int .i64 b),(11,.own p 0 L.length),(12,.int .i64 s.1)],s.2⟩)
  (I:=fun s=>a<=s.1/\s.1<=max a b/\s.2[p]?=some (some (.arr 3 (aq (e9 L M (R+a) (R+s.1)))))/\ax T s.2 [])
  (μ:=fun s=>max a b-s.1) (a,T1) ⟨Nat.le_refl _,Nat.le_max_left _ _,by rw[kS];exact hA,k1⟩ ?_ ?_
 ·simp -implicitDefEqProofs -dsimp only[an,vcS,↓vcQ,simprocAttr]
 ·intro ⟨i,B⟩ ⟨j0,j1,j2,j3⟩
  dsimp only at j0 j1 j2 j3 ⊢
  unfold uQ
  rcases Nat.lt_or_ge i b with hi | hi
  ·have hxx:(i:Int)<b:=by omega
   have wx:IntKind.i64.wrap ((i:Int)+1)=((i+1:Nat):Int):=by rw[aO (by omega) (by omega)];omega
   have wS:IntKind.i64.wrap ((R:Int)+i)=((R+i:Nat):Int):=by rw[aO (by omega) (by omega)];omega
   have lm:=gk (L:=L) (M:=M) (a:=R+a) (b:=R+i) (by omega) (by omega) hM
   have jf:=hat (i:=R+i)
   rw[if_pos (by omega)] at jf
   have b0:(0:Int)<=((R+i:Nat):Int):=by omega
   have b1:((R+i:Nat):Int)<L.length:=by omega
   have hg:=bf (L:=e9 L M (R+a) (R+i)) (i:=R+i) (by omega)
   have bY:=bM (e9 L M (R+a) (R+i)) (R+i) aM
   rw[fG (by omega) (by omega) hM jf.symm] at bY
   change (aq (e9 L M (R+a) (R+i))).set (R+i) [.int .i32 32,.int .u16 0,.int .u8 0]=_ at bY
   simp -implicitDefEqProofs -dsimp only[ah,ai j2,hxx,wR,wS,vcS,↓vcQ,simprocAttr]
   refine fc fun B1 kb=>?_
   have j2':=kb.at j2 (by simp)
   have kB:ax T B1 []:=j3.new kb (by simp)
   rw[show aM.row=[.int .i32 32,.int .u16 0,.int .u8 0] from rfl]
   simp -implicitDefEqProofs -dsimp only[ah,ai j2',hxx,wR,wS,wx,b0,b1,hg,bY,an,vcS,↓vcQ,simprocAttr]
   exact ⟨(i+1,_),⟨rfl,aH _⟩,⟨by dsimp only;omega,by dsimp only;omega,bZ j2' _,kB.put (Dd.ge hp) _⟩,by dsimp only;omega⟩
  ·have hxx:¬(i:Int)<b:=by omega
   obtain rfl:i=max a b:=by omega
   rw[kU (by omega) (by omega) hM fun j hj=>by rw[hat,if_neg hj]] at j2
   simp -implicitDefEqProofs -dsimp only[ah,ai j2,eq_false hxx,vcS,↓vcQ,simprocAttr]
   rw[<-hM]
   refine ux j2 gM hy fun T2 p2 hp2 hA2 k2=>?_
   simp -implicitDefEqProofs -dsimp only[ah,vcS,↓vcQ,simprocAttr]
   exact OR hA2 (fH gM hy).symm (j3.new k2 (by simp)) (by have:=j3.1;omega) h
theorem Qd {i:Nat}{sk:SK}{ps:List Int}{u:Int}(hs:sz=1\/ps=[])(hl:ps.length<=1000000)(h:K (.int .i64 (if bF ps i=0 then u else bF ps i)) T):aj PG 116 [.sl sz (af .i64 ps) sk,.int .i64 i,.int .i64 u] T K:=by
 have hlr:(af .i64 ps).length=ps.length:=by simp[af]
 rcases Nat.lt_or_ge i ps.length with hlt | hge
 ·have hi:¬(ps.length:Int)<=i:=by omega
  have i0:(0:Int)<=i:=by omega
  have i1:(i:Int)<ps.length:=by omega
  have hsz:sz=1:=by rcases hs with h | h;exact h;subst h;simp at hlt
  subst hsz
  have hg:(af .i64 ps)[i]?=some [.int .i64 (ps.getD i 0)]:=by simp[af,hlt]
  unfold bF at h
  generalize ps.getD i 0=x at *
  rcases Decidable.em (x=0) with e | e
  ·rw[if_pos e] at h
   refine aj.aE FOk.nil oR (by simp[jl]) ?_
   unfold jl
   dsimp only
   simp -implicitDefEqProofs -dsimp only[ah,hlr,hi,i0,i1,hg,eq_true e,Nat.zero_add,vcS,↓vcQ,simprocAttr]
   exact h
  ·rw[if_neg e] at h
   refine aj.aE FOk.nil oR (by simp[jl]) ?_
   unfold jl
   dsimp only
   simp -implicitDefEqProofs -dsimp only[ah,hlr,hi,i0,i1,hg,eq_false e,Nat.zero_add,vcS,↓vcQ,simprocAttr]
   exact h
 ·have hi:(ps.length:Int)<=i:=by omega
  have e:bF ps i=0:=by unfold bF;rw[List.getD_eq_getElem?_getD,List.getElem?_eq_none hge];rfl
  rw[if_pos e] at h
  refine aj.aE FOk.nil oR (by simp[jl]) ?_
  unfold jl
  dsimp only
  simp -implicitDefEqProofs -dsimp only[ah,hlr,hi,vcS,↓vcQ,simprocAttr]
  exact h
end
end Go.Proofs.YtjmnbpilnneonaaGreatDoor
