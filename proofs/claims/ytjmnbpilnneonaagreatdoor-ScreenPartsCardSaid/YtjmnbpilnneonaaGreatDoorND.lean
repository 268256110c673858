/- Texts R5, R6, R7 in one. -/
import Derived.Test.YtjmnbpilnneonaaGreatDoorNC
import Derived.Test.YtjmnbpilnneonaaGreatDoorM4
import Derived.Test.YtjmnbpilnneonaaGreatDoorN6
set_option linter.unusedVariables false
set_option linter.unusedSimpArgs false
set_option maxRecDepth 10000
namespace Go.Proofs.YtjmnbpilnneonaaGreatDoor
open Go.RowKit
theorem Xa {T:aj}{q n:Nat}{L:List Ce}{K:DV→aj→Prop}(hq:T[q]?=some (some (.arr 3 (av L))))(hn:n=L.length)(h0:0<L.length)(hl:L.length≤1000000)
  (h:∀T' p,T.length≤p→T'[p]?=some (some (.arr 3 (av L)))→aA T T' []→K (.own p 0 L.length) T'):aq PG 79 [.own q 0 n] T K:=by
 subst hn
 have hn:¬av L=[]:=by cases L with | nil=>simp at h0 | cons a l=>simp [av]
 have htk:List.take L.length (av L)=av L:=List.take_of_length_le (by rw [aH];exact Nat.le_refl _)
 refine aq.aE FOk.nil Au (by simp [ue]) ?_
 unfold ue
 dsimp only
 simp -implicitDefEqProofs -dsimp only [ah,ai hq,aH,hl,hn,htk,eq_true (lT L),vcS,↓an,↓ak,simprocAttr]
 exact ⟨by omega,h _ _ (Nat.le_refl _) (bq _ _ _) (aA.app _ _ _)⟩
theorem Tm {T:aj}{q:Nat}{L:List Ce}{rows aa:Nat}{K:DV→aj→Prop}(g:bW L rows aa)(h:K (.tup [.int .i64 rows,.bool true]) T):aq PG 78 [.own q 0 L.length,.int .i64 aa] T K:=by
 have h1:=g.r
 have h2:=g.c
 have h3:(L.length:Int)=(rows:Int)*aa:=by rw [g.len];simp
 have h4:(L.length:Int).tmod aa=0:=by rw [h3];exact Int.mul_tmod_left _ _
 have h5:(L.length:Int).tdiv aa=rows:=by rw [h3];exact Int.mul_tdiv_cancel _ (by omega)
 have h6:¬(aa:Int)=0:=by omega
 have h7:¬(aa:Int)= -1:=by omega
 have h8:¬(aa:Int)<1:=by omega
 have h9:¬(1000:Int)<aa:=by omega
 have w:IntKind.i64.wrap (rows:Int)=rows:=aP (by omega) (by omega)
 have r1:¬(rows:Int)<1:=by omega
 have r2:¬(1000:Int)<rows:=by omega
 refine aq.aE FOk.nil xP (by simp [pG]) ?_
 unfold pG
 dsimp only
 simp -implicitDefEqProofs -dsimp only [ah,aH,h4,h5,h6,h7,h8,h9,w,r1,r2,vcS,↓an,↓ak,simprocAttr]
 exact h
theorem Rp {T:aj}{q:Nat}{L:List Ce}{rows aa y x:Nat}{K:DV→aj→Prop}(g:bW L rows aa)(hy:y<rows)(hx:x≤aa)(h:K (.bool true) T):aq PG 88 [.own q 0 L.length,.int .i64 aa,.int .i64 y,.int .i64 x] T K:=by
 refine aq.aE FOk.nil ud (by simp [nA]) ?_
 unfold nA
 dsimp only
 simp -implicitDefEqProofs -dsimp only [ah,vcS,↓an,↓ak,simprocAttr]
 refine Tm g ?_
 have a1:(0:Int)≤y:=by omega
 have a2:(y:Int)<rows:=by omega
 have a3:(0:Int)≤x:=by omega
 have a4:(x:Int)≤aa:=by omega
 simp -implicitDefEqProofs -dsimp only [ah,a1,a2,a3,a4,vcS,↓an,↓ak,simprocAttr]
 exact h
set_option maxHeartbeats 4000000 in
theorem tQ {T:aj}{q:Nat}{L:List Ce}{rows aa y:Nat}{K:DV→aj→Prop}(hq:T[q]?=some (some (.arr 3 (av L))))(g:bW L rows aa)(hy:y<rows)
  (h:∀T' p,T.length≤p→T'[p]?=some (some (.arr 3 (av (cS L aa y))))→aA T T' []→K (.own p 0 L.length) T'):aq PG 53 [.own q 0 L.length,.int .i64 aa,.int .i64 y] T K:=by
 have h1:=g.r
 have h2:=g.c
 have hl:=g.lim
 have hgl:L.length=rows*aa:=g.len
 have hrow:=dc (aa:=aa) hy
 have ys:=bB y aa
 have hM:=gw g hy
 have hout:=fun {i:Nat} hi=>Sy (i:=i) g hy hi
 have Nw:=fun {x:Nat} hx=>Vl (x:=x) g hy hx
 have KE:=fun {x:Nat} hx=>Sx (x:=x) g hy hx
 obtain ⟨M,eM⟩:∃M,M=cS L aa y:=⟨_,rfl⟩
 rw [←eM] at h hout Nw KE hM
 obtain ⟨R,eR⟩:∃R,R=y*aa:=⟨_,rfl⟩
 have wR:IntKind.i64.wrap ((y:Int)*aa)=(R:Int):=by
  have:(y:Int)*aa=(R:Int):=by rw [eR];simp
  rw [this];exact aP (by omega) (by omega)
 have wc:IntKind.i64.wrap ((aa:Int)-1)=((aa-1:Nat):Int):=by rw [aP (by omega) (by omega)];omega
 rw [←eR] at Nw KE
 refine aq.aE FOk.nil Jn (by simp [Ax]) ?_
 unfold Ax
 dsimp only
 simp -implicitDefEqProofs -dsimp only [ah,vcS,↓an,↓ak,simprocAttr]
 refine Xa hq rfl hl.2 hl.1 fun T1 p hp hA k1=>?_
 simp -implicitDefEqProofs -dsimp only [ah,vcS,↓an,↓ak,simprocAttr]
 refine Rp (x:=0) g hy (by omega) ?_
 simp -implicitDefEqProofs -dsimp only [ah,vcS,↓an,↓ak,simprocAttr]
 refine bp.inv FOk.nil (S:=fun s:Nat × aj=>⟨[(0,.own q 0 L.length),(1,.int .i64 aa),(2,.int .i64 y),(7,.own p 0 L.length),(8,.int .i64 s.1)],s.2⟩)
  (I:=fun s=>s.1≤aa∧s.2[p]?=some (some (.arr 3 (av (fD L M R (R+s.1)))))∧aA T s.2 [])
  (μ:=fun s=>aa-s.1) (0,T1) ⟨by simp,by rw [Nat.add_zero,me];exact hA,k1⟩ ?_ ?_
 ·simp -implicitDefEqProofs -dsimp only [ax,vcS,↓an,↓ak,simprocAttr]
 ·intro ⟨x,B⟩ ⟨j1,j2,j3⟩
  dsimp only at j1 j2 j3 ⊢
  unfold xS
  rcases Nat.lt_or_ge x aa with hx | hx
  ·have hxx:(x:Int)<aa:=by omega
   have wx:IntKind.i64.wrap ((x:Int)+1)=((x+1:Nat):Int):=by rw [aP (by omega) (by omega)];omega
   have wS:IntKind.i64.wrap ((R:Int)+x)=((R+x:Nat):Int):=by rw [aP (by omega) (by omega)];omega
   have wn:IntKind.i64.wrap (((R+x:Nat):Int)+1)=((R+(x+1):Nat):Int):=by rw [aP (by omega) (by omega)];omega
   have wp:0<x→IntKind.i64.wrap (((R+x:Nat):Int)-1)=((R+x-1:Nat):Int):=fun _=>by rw [aP (by omega) (by omega)];omega
   have lm:=gm (L:=L) (M:=M) (a:=R) (b:=R+x) (by omega) (by omega) hM
   have b0:(0:Int)≤((R+x:Nat):Int):=by omega
   have b1:((R+x:Nat):Int)<L.length:=by omega
   have n0:(0:Int)≤((R+(x+1):Nat):Int):=by omega
   have n1:x+1<aa→((R+(x+1):Nat):Int)<L.length:=fun _=>by omega
   have p0:(0:Int)≤((R+x-1:Nat):Int):=by omega
   have p1:((R+x-1:Nat):Int)<L.length:=by omega
   have hg:=bw (L:=fD L M R (R+x)) (i:=R+x) (by omega)
   have hL:=bw (L:=L) (i:=R+x) (by omega)
   have hn:=fun h:x+1<aa=>bw (L:=L) (i:=R+(x+1)) (by omega)
   have hp2:=bw (L:=L) (i:=R+x-1) (by omega)
   have hb:=Nw hx
   have hgd:=KE hx
   have cv:=bP (fD L M R (R+x)) (R+x) aN
   change (av (fD L M R (R+x))).set (R+x) [.int .i32 32,.int .u16 0,.int .u8 0]=_ at cv
   have Qr:=fun e=>fU (L:=L) (M:=M) (a:=R) (b:=R+x) (c:=aN) (by omega) (by omega) hM e
   have Vx:=Sv (L:=L) (M:=M) (a:=R) (b:=R+x) (by omega) (by omega) hM
   rw [Nat.add_assoc] at hb hgd
   generalize L.getD (R+x) aN=c at *
   generalize L.getD (R+(x+1)) aN=cn at *
   generalize L.getD (R+x-1) aN=cp at *
   rcases Decidable.em (c.h=1) with c1 | c1
   ·have c2:¬c.h=2:=by omega
    rcases Decidable.em (x+1=aa) with x1 | x1
    ·have xe:(x:Int)=((aa-1:Nat):Int):=by omega
     have e:M.getD (R+x) aN=aN:=hb (.inl ⟨c1,.inl x1⟩)
     rw [Qr e.symm] at cv
     simp -implicitDefEqProofs -dsimp only [ah,ai j2,ai (j3.at hq (by simp)),hxx,wR,wS,wn,wx,wc,b0,b1,n0,p0,p1,hL,hp2,aH,eq_true c1,eq_false c2,eq_true xe,ax,vcS,↓an,↓ak,simprocAttr]
     refine gL fun B1 kb=>?_
     have j2':=kb.at j2 (by simp)
     rw [show aN.row=[.int .i32 32,.int .u16 0,.int .u8 0] from rfl]
     simp -implicitDefEqProofs -dsimp only [ah,ai j2',ai (kb.at (j3.at hq (by simp)) (by simp)),hxx,wR,wS,wn,wx,wc,b0,b1,n0,p0,p1,hL,hp2,aH,hg,cv,eq_true c1,eq_false c2,eq_true xe,ax,vcS,↓an,↓ak,simprocAttr]
     exact ⟨(x+1,_),⟨rfl,aJ _⟩,⟨hx,bX j2' _,((j3.new kb (by simp)).put (Dd.ge hp) _)⟩,by dsimp only;omega⟩
    ·have xe:¬(x:Int)=((aa-1:Nat):Int):=by omega
     have n1':=n1 (by omega)
     have hn':=hn (by omega)
     rcases Decidable.em (cn.h=2) with d1 | d1
     ·skip
      have e:M.getD (R+x) aN=c:=hgd (fun _=>⟨by omega,d1⟩) (fun e=>absurd e c2)
      simp -implicitDefEqProofs -dsimp only [ah,ai j2,ai (j3.at hq (by simp)),hxx,wR,wS,wn,wx,wc,b0,b1,n0,p0,p1,hL,hp2,aH,eq_true c1,eq_false c2,eq_false xe,n1',hn',eq_true d1,ax,vcS,↓an,↓ak,simprocAttr]
      exact ⟨(x+1,_),⟨rfl,aJ _⟩,⟨hx,by dsimp only;rw [←Nat.add_assoc,Vx e];exact j2,j3⟩,by dsimp only;omega⟩
     ·skip
      have e:M.getD (R+x) aN=aN:=hb (.inl ⟨c1,.inr ⟨by omega,d1⟩⟩)
      rw [Qr e.symm] at cv
      simp -implicitDefEqProofs -dsimp only [ah,ai j2,ai (j3.at hq (by simp)),hxx,wR,wS,wn,wx,wc,b0,b1,n0,p0,p1,hL,hp2,aH,eq_true c1,eq_false c2,eq_false xe,n1',hn',eq_false d1,ax,vcS,↓an,↓ak,simprocAttr]
      refine gL fun B1 kb=>?_
      have j2':=kb.at j2 (by simp)
      rw [show aN.row=[.int .i32 32,.int .u16 0,.int .u8 0] from rfl]
      simp -implicitDefEqProofs -dsimp only [ah,ai j2',ai (kb.at (j3.at hq (by simp)) (by simp)),hxx,wR,wS,wn,wx,wc,b0,b1,n0,p0,p1,hL,hp2,aH,hg,cv,eq_true c1,eq_false c2,eq_false xe,n1',hn',eq_false d1,ax,vcS,↓an,↓ak,simprocAttr]
      exact ⟨(x+1,_),⟨rfl,aJ _⟩,⟨hx,bX j2' _,((j3.new kb (by simp)).put (Dd.ge hp) _)⟩,by dsimp only;omega⟩
   ·rcases Decidable.em (c.h=2) with c2 | c2
    ·rcases Decidable.em (x=0) with x0 | x0
     ·have xe:(x:Int)=0:=by omega
      have e:M.getD (R+x) aN=aN:=hb (.inr ⟨c2,.inl x0⟩)
      rw [Qr e.symm] at cv
      simp -implicitDefEqProofs -dsimp only [ah,ai j2,ai (j3.at hq (by simp)),hxx,wR,wS,wn,wx,wc,b0,b1,n0,p0,p1,hL,hp2,aH,eq_false c1,eq_true c2,eq_true xe,ax,vcS,↓an,↓ak,simprocAttr]
      refine gL fun B1 kb=>?_
      have j2':=kb.at j2 (by simp)
      rw [show aN.row=[.int .i32 32,.int .u16 0,.int .u8 0] from rfl]
      simp -implicitDefEqProofs -dsimp only [ah,ai j2',ai (kb.at (j3.at hq (by simp)) (by simp)),hxx,wR,wS,wn,wx,wc,b0,b1,n0,p0,p1,hL,hp2,aH,hg,cv,eq_false c1,eq_true c2,eq_true xe,ax,vcS,↓an,↓ak,simprocAttr]
      exact ⟨(x+1,_),⟨rfl,aJ _⟩,⟨hx,bX j2' _,((j3.new kb (by simp)).put (Dd.ge hp) _)⟩,by dsimp only;omega⟩
     ·have xe:¬(x:Int)=0:=by omega
      have wp':=wp (by omega)
      rcases Decidable.em (cp.h=1) with d1 | d1
      ·skip
       have e:M.getD (R+x) aN=c:=hgd (fun e=>absurd e c1) (fun _=>⟨by omega,d1⟩)
       simp -implicitDefEqProofs -dsimp only [ah,ai j2,ai (j3.at hq (by simp)),hxx,wR,wS,wn,wx,wc,b0,b1,n0,p0,p1,hL,hp2,aH,eq_false c1,eq_true c2,eq_false xe,wp',eq_true d1,ax,vcS,↓an,↓ak,simprocAttr]
       exact ⟨(x+1,_),⟨rfl,aJ _⟩,⟨hx,by dsimp only;rw [←Nat.add_assoc,Vx e];exact j2,j3⟩,by dsimp only;omega⟩
      ·skip
       have e:M.getD (R+x) aN=aN:=hb (.inr ⟨c2,.inr ⟨by omega,d1⟩⟩)
       rw [Qr e.symm] at cv
       simp -implicitDefEqProofs -dsimp only [ah,ai j2,ai (j3.at hq (by simp)),hxx,wR,wS,wn,wx,wc,b0,b1,n0,p0,p1,hL,hp2,aH,eq_false c1,eq_true c2,eq_false xe,wp',eq_false d1,ax,vcS,↓an,↓ak,simprocAttr]
       refine gL fun B1 kb=>?_
       have j2':=kb.at j2 (by simp)
       rw [show aN.row=[.int .i32 32,.int .u16 0,.int .u8 0] from rfl]
       simp -implicitDefEqProofs -dsimp only [ah,ai j2',ai (kb.at (j3.at hq (by simp)) (by simp)),hxx,wR,wS,wn,wx,wc,b0,b1,n0,p0,p1,hL,hp2,aH,hg,cv,eq_false c1,eq_true c2,eq_false xe,wp',eq_false d1,ax,vcS,↓an,↓ak,simprocAttr]
       exact ⟨(x+1,_),⟨rfl,aJ _⟩,⟨hx,bX j2' _,((j3.new kb (by simp)).put (Dd.ge hp) _)⟩,by dsimp only;omega⟩
    ·skip
     have e:M.getD (R+x) aN=c:=hgd (fun e=>absurd e c1) (fun e=>absurd e c2)
     simp -implicitDefEqProofs -dsimp only [ah,ai j2,ai (j3.at hq (by simp)),hxx,wR,wS,wn,wx,wc,b0,b1,n0,p0,p1,hL,hp2,aH,eq_false c1,eq_false c2,ax,vcS,↓an,↓ak,simprocAttr]
     exact ⟨(x+1,_),⟨rfl,aJ _⟩,⟨hx,by dsimp only;rw [←Nat.add_assoc,Vx e];exact j2,j3⟩,by dsimp only;omega⟩
  ·have hxx:¬(x:Int)<aa:=by omega
   simp -implicitDefEqProofs -dsimp only [ah,hxx,vcS,↓an,↓ak,simprocAttr]
   obtain rfl:x=aa:=by omega
   rw [mg (by omega) (by omega) hM fun i hi=>hout (by omega)] at j2
   exact ⟨j3.1,h _ p hp j2 j3⟩
noncomputable def rF:RC:=(.seq (SR [MV 27 12,MV 28 1,BT 29 .lss 27 28] [0,1,2,3,4,11,12,29] (.cond (.t 29) .skip (.ext 0))) (.seq (.blk 1 (SR [OP 32 (.call 40 []),OP 13 (.alloc [.int .i32 0,.int .u16 0,.int .u8 0]),SA 3 13 32] [0,1,2,3,4,11,12,13] (.seq (SR [MV 33 12,MV 34 4,BT 35 .sub 33 34,MV 36 3,BT 37 .geq 35 36] [0,1,2,3,4,11,12,13,37] (.cond (.t 37) (.reg [MV 38 0,MV 39 2,MV 40 1,BT 41 .mul 39 40,MV 42 12,BT 43 .add 41 42,MV 44 4,BT 45 .sub 43 44,OP 46 (.aT 3 (.t 38) (.t 45)),LT 47 3 46,SA 3 13 47] 0 [0,1,2,3,4,11,12,13]) .skip)) (.reg [MV 48 11,MV 49 2,MV 50 1,BT 51 .mul 49 50,MV 52 12,BT 53 .add 51 52,LT 54 3 13,OP 55 (.aT 3 (.t 48) (.t 53)),SA 3 55 54] 0 [0,1,2,3,4,11,12])))) (.reg [MV 30 12,BI 31 .add 30 1,MV 12 31] 0 [0,1,2,3,4,11,12])))
noncomputable def sM:RFn:=⟨5,60,(SR [OP 10 (.mov (.c (.sl 0 [] .nil)))] [0,1,2,3,4] (SR [MV 14 0,OP 15 (.call 79 [.t 14]),MV 11 15] [0,1,2,3,4,11] (.seq (SR [MV 16 0,MV 17 1,MV 18 2,MV 19 3,OP 20 (.call 88 [.t 16,.t 17,.t 18,.t 19]),OP 21 (.un .not (.t 20))] [0,1,2,3,4,11,21] (.cond (.t 21) (SR [MV 22 11,MV 10 22] [10] .ret) .skip)) (SR [MV 23 4,OP 24 (.mm true (.t 23) (.c (.int .i64 0))),OP 25 (.mm false (.t 24) (.c (.int .i64 1000))),MV 4 25] [0,1,2,3,4,11] (.seq (SR [MV 26 3,MV 12 26] [0,1,2,3,4,11,12] (.blk 0 (.loop rF))) (SR [MV 56 11,MV 57 1,MV 58 2,OP 59 (.call 53 [.t 56,.t 57,.t 58]),MV 10 59] [10] .ret)))))),[.t 10]⟩
theorem Db:aK PG.P [⟨0,0,[0,1,2,3,4],[]⟩,⟨1,0,[0,1,2,3,4,11],[]⟩,⟨2,0,[0,1,2,3,4,11,21],[]⟩,⟨3,0,[10],[]⟩,⟨4,0,[0,1,2,3,4,11],[]⟩,⟨5,0,[0,1,2,3,4,11,12],[]⟩,⟨6,0,[0,1,2,3,4,11,12,29],[]⟩,⟨7,0,[0,1,2,3,4,11,12],[]⟩,⟨8,0,[0,1,2,3,4,11,12,13],[]⟩,⟨9,0,[0,1,2,3,4,11,12,13,37],[]⟩,⟨10,0,[0,1,2,3,4,11,12,13],[]⟩,⟨11,0,[0,1,2,3,4,11,12],[]⟩,⟨12,0,[10],[]⟩] 120=some sM:=by kernel_rfl
noncomputable def rG:RC:=(.seq (SR [MV 27 12,MV 28 1,BT 29 .lss 27 28] [0,1,2,4,11,12,29] (.cond (.t 29) .skip (.ext 0))) (.seq (.blk 1 (SR [OP 32 (.call 40 []),OP 13 (.alloc [.int .i32 0,.int .u16 0,.int .u8 0]),SA 3 13 32] [0,1,2,4,11,12,13] (.seq (SR [MV 33 12,MV 34 4,BT 35 .add 33 34,MV 36 1,BT 37 .lss 35 36] [0,1,2,4,11,12,13,37] (.cond (.t 37) (.reg [MV 38 0,MV 39 2,MV 40 1,BT 41 .mul 39 40,MV 42 12,BT 43 .add 41 42,MV 44 4,BT 45 .add 43 44,OP 46 (.aT 3 (.t 38) (.t 45)),LT 47 3 46,SA 3 13 47] 0 [0,1,2,4,11,12,13]) .skip)) (.reg [MV 48 11,MV 49 2,MV 50 1,BT 51 .mul 49 50,MV 52 12,BT 53 .add 51 52,LT 54 3 13,OP 55 (.aT 3 (.t 48) (.t 53)),SA 3 55 54] 0 [0,1,2,4,11,12])))) (.reg [MV 30 12,BI 31 .add 30 1,MV 12 31] 0 [0,1,2,4,11,12])))
noncomputable def sN:RFn:=⟨5,60,(SR [OP 10 (.mov (.c (.sl 0 [] .nil)))] [0,1,2,3,4] (SR [MV 14 0,OP 15 (.call 79 [.t 14]),MV 11 15] [0,1,2,3,4,11] (.seq (SR [MV 16 0,MV 17 1,MV 18 2,MV 19 3,OP 20 (.call 88 [.t 16,.t 17,.t 18,.t 19]),OP 21 (.un .not (.t 20))] [0,1,2,3,4,11,21] (.cond (.t 21) (SR [MV 22 11,MV 10 22] [10] .ret) .skip)) (SR [MV 23 4,OP 24 (.mm true (.t 23) (.c (.int .i64 0))),OP 25 (.mm false (.t 24) (.c (.int .i64 1000))),MV 4 25] [0,1,2,3,4,11] (.seq (SR [MV 26 3,MV 12 26] [0,1,2,4,11,12] (.blk 0 (.loop rG))) (SR [MV 56 11,MV 57 1,MV 58 2,OP 59 (.call 53 [.t 56,.t 57,.t 58]),MV 10 59] [10] .ret)))))),[.t 10]⟩
theorem Dc:aK PG.P [⟨0,0,[0,1,2,3,4],[]⟩,⟨1,0,[0,1,2,3,4,11],[]⟩,⟨2,0,[0,1,2,3,4,11,21],[]⟩,⟨3,0,[10],[]⟩,⟨4,0,[0,1,2,3,4,11],[]⟩,⟨5,0,[0,1,2,4,11,12],[]⟩,⟨6,0,[0,1,2,4,11,12,29],[]⟩,⟨7,0,[0,1,2,4,11,12],[]⟩,⟨8,0,[0,1,2,4,11,12,13],[]⟩,⟨9,0,[0,1,2,4,11,12,13,37],[]⟩,⟨10,0,[0,1,2,4,11,12,13],[]⟩,⟨11,0,[0,1,2,4,11,12],[]⟩,⟨12,0,[10],[]⟩] 121=some sN:=by kernel_rfl
noncomputable def uh:RC:=(.seq (SR [MV 30 12,MV 31 4,BT 32 .lss 30 31] [1,2,4,11,12,32] (.cond (.t 32) .skip (.ext 0))) (.seq (.blk 1 (.reg [MV 35 11,MV 36 2,MV 37 1,BT 38 .mul 36 37,MV 39 12,BT 40 .add 38 39,OP 41 (.call 40 []),OP 42 (.aT 3 (.t 35) (.t 40)),SA 3 42 41] 0 [1,2,4,11,12])) (.reg [MV 33 12,BI 34 .add 33 1,MV 12 34] 0 [1,2,4,11,12])))
noncomputable def v9:RFn:=⟨5,47,(SR [OP 10 (.mov (.c (.sl 0 [] .nil)))] [0,1,2,3,4] (SR [MV 13 0,OP 14 (.call 79 [.t 13]),MV 11 14] [0,1,2,3,4,11] (.seq (SR [MV 15 0,MV 16 1,MV 17 2,OP 18 (.call 88 [.t 15,.t 16,.t 17,.c (.int .i64 0)]),OP 19 (.un .not (.t 18))] [1,2,3,4,11,19] (.cond (.t 19) (SR [MV 20 11,MV 10 20] [10] .ret) .skip)) (SR [MV 21 3,OP 22 (.mm true (.t 21) (.c (.int .i64 0))),MV 23 1,OP 24 (.mm false (.t 22) (.t 23)),MV 25 4,OP 26 (.mm true (.t 25) (.c (.int .i64 0))),MV 27 1,OP 28 (.mm false (.t 26) (.t 27)),MV 3 24,MV 4 28] [1,2,3,4,11] (.seq (SR [MV 29 3,MV 12 29] [1,2,4,11,12] (.blk 0 (.loop uh))) (SR [MV 43 11,MV 44 1,MV 45 2,OP 46 (.call 53 [.t 43,.t 44,.t 45]),MV 10 46] [10] .ret)))))),[.t 10]⟩
theorem GC:aK PG.P [⟨0,0,[0,1,2,3,4],[]⟩,⟨1,0,[0,1,2,3,4,11],[]⟩,⟨2,0,[1,2,3,4,11,19],[]⟩,⟨3,0,[10],[]⟩,⟨4,0,[1,2,3,4,11],[]⟩,⟨5,0,[1,2,4,11,12],[]⟩,⟨6,0,[1,2,4,11,12,32],[]⟩,⟨7,0,[1,2,4,11,12],[]⟩,⟨8,0,[1,2,4,11,12],[]⟩,⟨9,0,[10],[]⟩] 122=some v9:=by kernel_rfl
theorem Sm {L R S:List Ce}{rows aa y:Nat}(g:bW L rows aa)(hy:y<rows)(hR:R.length=aa)(hS:S.length=aa):kD (kD L aa y R) aa y S=kD L aa y S:=by
 have gp:bW (kD L aa y R) rows aa:=g.eI (fT g hy hR)
 refine dH (by rw [fT gp hy hS,fT g hy hS,fT g hy hR]) fun i _=>?_
 rw [iy gp hy hS,iy g hy hS,iy g hy hR]
 split
 ·rfl
 ·split
  ·rfl
  ·rfl
theorem J3 {L R:List Ce}{rows aa y:Nat}(g:bW L rows aa)(hy:y<rows)(hR:R.length=aa):cS (kD L aa y R) aa y=kD L aa y (fe R):=by
 unfold cS
 rw [nr g hy hy hR,if_pos rfl,Sm g hy hR (by rw [bO,hR])]
theorem UJ {L A B:List Ce}{rows aa y x j:Nat}(g:bW L rows aa)(hy:y<rows)(hA:A=(cM L aa y).take x)(hB:B.length=aa-x)(hx:x≤aa) :
  (kD L aa y (A++B)).getD j aN=if y*aa+x≤j∧j<y*aa+aa then B.getD (j-(y*aa+x)) aN else L.getD j aN:=by
 have hl:=bK g hy
 have s1:=bB y aa
 have hAl:A.length=x:=by rw [hA,List.length_take,hl];omega
 rw [iy g hy (by rw [List.length_append,hAl,hB];omega)]
 rcases Nat.lt_or_ge j (y*aa) with h1 | h1
 ·rw [if_pos h1,if_neg (by omega)]
 ·rw [if_neg (by omega)]
  rcases Nat.lt_or_ge j ((y+1)*aa) with h2 | h2
  ·rw [if_pos h2,nK,hAl]
   rcases Nat.lt_or_ge j (y*aa+x) with h3 | h3
   ·rw [if_pos (by omega),if_neg (by omega),hA,dX,if_pos (by omega),cL g hy (by omega)]
    congr 1;omega
   ·rw [if_neg (by omega),if_pos (by omega)]
    congr 1;omega
  ·rw [if_neg (by omega),if_neg (by omega)]
set_option maxHeartbeats 1000000 in
theorem Ru {T:aj}{sz:Nat}{k:SK}{L:List Ce}{rows aa y x:Nat}{n:Int}{K:DV→aj→Prop}(hs:sz=3)(g:bW L rows aa)(hy:y<rows)(hx:x≤aa)
  (h:∀T',aA T T' []→K (.sl 3 (av (Dv L aa y x n)) .any) T'):aq PG 120 [.sl sz (av L) k,.int .i64 aa,.int .i64 y,.int .i64 x,.int .i64 n] T K:=by
 subst hs
 have h1:=g.r
 have h2:=g.c
 have hl:=g.lim
 have hgl:L.length=rows*aa:=g.len
 have hrow:=dc (aa:=aa) hy
 have ys:=bB y aa
 have hrl:=bK g hy
 obtain ⟨N,eN⟩:∃N,N=br n:=⟨_,rfl⟩
 have hn:min (max n 0) 1000=(N:Int):=by unfold br at eN;omega
 have hN:N≤1000:=by unfold br at eN;omega
 have hB:(oc N ((cM L aa y).drop x)).length=aa-x:=by rw [ko,List.length_drop,hrl]
 have hAB:((cM L aa y).take x++oc N ((cM L aa y).drop x)).length=aa:=by rw [List.length_append,hB,List.length_take,hrl];omega
 obtain ⟨M,eM⟩:∃M,M=kD L aa y ((cM L aa y).take x++oc N ((cM L aa y).drop x)):=⟨_,rfl⟩
 have hM:M.length=L.length:=by rw [eM];exact fT g hy hAB
 have gM:bW M rows aa:=g.eI hM
 have eL:cS M aa y=Dv L aa y x n:=by rw [eM,J3 g hy hAB,eN];rfl
 have Nx:∀j,M.getD j aN=if y*aa+x≤j∧j<y*aa+aa then (oc N ((cM L aa y).drop x)).getD (j-(y*aa+x)) aN else L.getD j aN:=fun j=>by rw [eM];exact UJ g hy rfl hB hx
 rw [←eL] at h
 clear eL eM hAB
 have hat:∀i,x≤i→i<aa→M.getD (y*aa+i) aN=if x+N≤i then L.getD (y*aa+i-N) aN else aN:=fun i hi1 hi2=>by
  rw [Nx,if_pos (by omega),qM (by rw [List.length_drop,hrl];omega)]
  rcases Decidable.em (x+N≤i) with e | e
  ·rw [if_pos (by omega),if_pos e,dJ,cL g hy (by omega)]
   congr 1;omega
  ·rw [if_neg (by omega),if_neg e]
 have hout:∀j,¬(y*aa+x≤j∧j<y*aa+aa)→M.getD j aN=L.getD j aN:=fun j hj=>by rw [Nx,if_neg hj]
 clear Nx hB
 obtain ⟨R,eR⟩:∃R,R=y*aa:=⟨_,rfl⟩
 have wR:IntKind.i64.wrap ((y:Int)*aa)=(R:Int):=by
  have:(y:Int)*aa=(R:Int):=by rw [eR];simp
  rw [this];exact aP (by omega) (by omega)
 rw [←eR] at hat hout
 refine aq.fK FOk.nil Db (by simp [sM]) ?_
 unfold sM
 dsimp only
 simp -implicitDefEqProofs -dsimp only [ah,vcS,↓an,↓ak,simprocAttr]
 refine oZ rfl hl.2 hl.1 fun T1 p hp hA k1=>?_
 simp -implicitDefEqProofs -dsimp only [ah,vcS,↓an,↓ak,simprocAttr]
 refine zO g hy hx ?_
 simp -implicitDefEqProofs -dsimp only [ah,hn,vcS,↓an,↓ak,simprocAttr]
 refine bp.inv FOk.nil (S:=fun s:Nat × aj=>⟨[(0,.sl 3 (av L) k),(1,.int .i64 aa),(2,.int .i64 y),(3,.int .i64 x),(4,.int .i64 N),(11,.own p 0 L.length),(12,.int .i64 s.1)],s.2⟩)
  (I:=fun s=>x≤s.1∧s.1≤aa∧s.2[p]?=some (some (.arr 3 (av (fD L M (R+x) (R+s.1)))))∧aA T s.2 [])
  (μ:=fun s=>aa-s.1) (x,T1) ⟨Nat.le_refl _,hx,by rw [me];exact hA,k1⟩ ?_ ?_
 ·simp -implicitDefEqProofs -dsimp only [ax,vcS,↓an,↓ak,simprocAttr]
 ·intro ⟨i,B⟩ ⟨j0,j1,j2,j3⟩
  dsimp only at j0 j1 j2 j3 ⊢
  unfold rF
  rcases Nat.lt_or_ge i aa with hi | hi
  ·have hxx:(i:Int)<aa:=by omega
   have wx:IntKind.i64.wrap ((i:Int)+1)=((i+1:Nat):Int):=by rw [aP (by omega) (by omega)];omega
   have wS:IntKind.i64.wrap ((R:Int)+i)=((R+i:Nat):Int):=by rw [aP (by omega) (by omega)];omega
   obtain ⟨zi,ezi⟩:∃zi:Int,zi=(i:Int)-N:=⟨_,rfl⟩
   have wz:IntKind.i64.wrap ((i:Int)-N)=zi:=by rw [aP (by omega) (by omega)];omega
   simp -implicitDefEqProofs -dsimp only [ah,hxx,vcS,↓an,↓ak,simprocAttr]
   refine gL fun B1 kb=>?_
   have j2':=kb.at j2 (by simp)
   have kB:aA T B1 []:=j3.new kb (by simp)
   have lm:=gm (L:=L) (M:=M) (a:=R+x) (b:=R+i) (by omega) (by omega) hM
   have iV:=hat i j0 hi
   have b0:(0:Int)≤((R+i:Nat):Int):=by omega
   have b1:((R+i:Nat):Int)<L.length:=by omega
   have hg:=bw (L:=fD L M (R+x) (R+i)) (i:=R+i) (by omega)
   rw [show aN.row=[.int .i32 32,.int .u16 0,.int .u8 0] from rfl]
   rcases Decidable.em (x+N≤i) with hz | hz
   ·have hzz:(x:Int)≤zi:=by omega
    rw [if_pos hz] at iV
    obtain ⟨Q,eQ⟩:∃Q,Q=R+i-N:=⟨_,rfl⟩
    rw [←eQ] at iV
    have wQ:IntKind.i64.wrap (((R+i:Nat):Int)-N)=(Q:Int):=by rw [aP (by omega) (by omega)];omega
    have d0:(0:Int)≤(Q:Int):=by omega
    have d1:(Q:Int)<L.length:=by omega
    have hg2:=bw (L:=L) (i:=Q) (by omega)
    have cv:=bP (fD L M (R+x) (R+i)) (R+i) (L.getD Q aN)
    rw [fU (by omega) (by omega) hM iV.symm] at cv
    generalize L.getD Q aN=c at *
    simp -implicitDefEqProofs -dsimp only [ah,ai j2',hxx,wz,hzz,wQ,d0,d1,hg2,aH,wR,wS,wx,b0,b1,hg,cv,ax,vcS,↓an,↓ak,simprocAttr]
    exact ⟨(i+1,_),⟨rfl,aJ _⟩,⟨by dsimp only;omega,hi,gO (bX j2' _) _,((kB.put (Dd.ge hp) _).eD _)⟩,by dsimp only;omega⟩
   ·have hzz:¬(x:Int)≤zi:=by omega
    rw [if_neg hz] at iV
    have cv:=bP (fD L M (R+x) (R+i)) (R+i) aN
    rw [fU (by omega) (by omega) hM iV.symm] at cv
    change (av (fD L M (R+x) (R+i))).set (R+i) [.int .i32 32,.int .u16 0,.int .u8 0]=_ at cv
    simp -implicitDefEqProofs -dsimp only [ah,ai j2',hxx,wz,eq_false hzz,wR,wS,wx,b0,b1,hg,cv,ax,vcS,↓an,↓ak,simprocAttr]
    exact ⟨(i+1,_),⟨rfl,aJ _⟩,⟨by dsimp only;omega,hi,gO (bX j2' _) _,((kB.put (Dd.ge hp) _).eD _)⟩,by dsimp only;omega⟩
  ·have hxx:¬(i:Int)<aa:=by omega
   obtain rfl:i=aa:=by omega
   rw [mg (by omega) (by omega) hM fun j hj=>hout j (by omega)] at j2
   simp -implicitDefEqProofs -dsimp only [ah,ai j2,hxx,aH,hM,Nat.le_refl,List.take_length,vcS,↓an,↓ak,simprocAttr]
   rw [←hM]
   refine tQ j2 gM hy fun T2 p2 hp2 hA2 k2=>?_
   simp -implicitDefEqProofs -dsimp only [ah,vcS,↓an,↓ak,simprocAttr]
   exact VV hA2 (gw gM hy).symm (j3.new k2 (by simp)) (by have:=j3.1;omega) h
set_option maxHeartbeats 1000000 in
theorem Rv {T:aj}{sz:Nat}{k:SK}{L:List Ce}{rows aa y x:Nat}{n:Int}{K:DV→aj→Prop}(hs:sz=3)(g:bW L rows aa)(hy:y<rows)(hx:x≤aa)
  (h:∀T',aA T T' []→K (.sl 3 (av (Dz L aa y x n)) .any) T'):aq PG 121 [.sl sz (av L) k,.int .i64 aa,.int .i64 y,.int .i64 x,.int .i64 n] T K:=by
 subst hs
 have h1:=g.r
 have h2:=g.c
 have hl:=g.lim
 have hgl:L.length=rows*aa:=g.len
 have hrow:=dc (aa:=aa) hy
 have ys:=bB y aa
 have hrl:=bK g hy
 obtain ⟨N,eN⟩:∃N,N=br n:=⟨_,rfl⟩
 have hn:min (max n 0) 1000=(N:Int):=by unfold br at eN;omega
 have hN:N≤1000:=by unfold br at eN;omega
 have hB:(oa N ((cM L aa y).drop x)).length=aa-x:=by rw [kn,List.length_drop,hrl]
 have hAB:((cM L aa y).take x++oa N ((cM L aa y).drop x)).length=aa:=by rw [List.length_append,hB,List.length_take,hrl];omega
 obtain ⟨M,eM⟩:∃M,M=kD L aa y ((cM L aa y).take x++oa N ((cM L aa y).drop x)):=⟨_,rfl⟩
 have hM:M.length=L.length:=by rw [eM];exact fT g hy hAB
 have gM:bW M rows aa:=g.eI hM
 have eL:cS M aa y=Dz L aa y x n:=by rw [eM,J3 g hy hAB,eN];rfl
 have Nx:∀j,M.getD j aN=if y*aa+x≤j∧j<y*aa+aa then (oa N ((cM L aa y).drop x)).getD (j-(y*aa+x)) aN else L.getD j aN:=fun j=>by rw [eM];exact UJ g hy rfl hB hx
 rw [←eL] at h
 clear eL eM hAB
 have hat:∀i,x≤i→i<aa→M.getD (y*aa+i) aN=if i+N<aa then L.getD (y*aa+i+N) aN else aN:=fun i hi1 hi2=>by
  rw [Nx,if_pos (by omega),qL (by rw [List.length_drop,hrl];omega),List.length_drop,hrl]
  rcases Decidable.em (i+N<aa) with e | e
  ·rw [if_pos (by omega),if_pos e,dJ,cL g hy (by omega)]
   congr 1;omega
  ·rw [if_neg (by omega),if_neg e]
 have hout:∀j,¬(y*aa+x≤j∧j<y*aa+aa)→M.getD j aN=L.getD j aN:=fun j hj=>by rw [Nx,if_neg hj]
 clear Nx hB
 obtain ⟨R,eR⟩:∃R,R=y*aa:=⟨_,rfl⟩
 have wR:IntKind.i64.wrap ((y:Int)*aa)=(R:Int):=by
  have:(y:Int)*aa=(R:Int):=by rw [eR];simp
  rw [this];exact aP (by omega) (by omega)
 rw [←eR] at hat hout
 refine aq.fK FOk.nil Dc (by simp [sN]) ?_
 unfold sN
 dsimp only
 simp -implicitDefEqProofs -dsimp only [ah,vcS,↓an,↓ak,simprocAttr]
 refine oZ rfl hl.2 hl.1 fun T1 p hp hA k1=>?_
 simp -implicitDefEqProofs -dsimp only [ah,vcS,↓an,↓ak,simprocAttr]
 refine zO g hy hx ?_
 simp -implicitDefEqProofs -dsimp only [ah,hn,vcS,↓an,↓ak,simprocAttr]
 refine bp.inv FOk.nil (S:=fun s:Nat × aj=>⟨[(0,.sl 3 (av L) k),(1,.int .i64 aa),(2,.int .i64 y),(4,.int .i64 N),(11,.own p 0 L.length),(12,.int .i64 s.1)],s.2⟩)
  (I:=fun s=>x≤s.1∧s.1≤aa∧s.2[p]?=some (some (.arr 3 (av (fD L M (R+x) (R+s.1)))))∧aA T s.2 [])
  (μ:=fun s=>aa-s.1) (x,T1) ⟨Nat.le_refl _,hx,by rw [me];exact hA,k1⟩ ?_ ?_
 ·simp -implicitDefEqProofs -dsimp only [ax,vcS,↓an,↓ak,simprocAttr]
 ·intro ⟨i,B⟩ ⟨j0,j1,j2,j3⟩
  dsimp only at j0 j1 j2 j3 ⊢
  unfold rG
  rcases Nat.lt_or_ge i aa with hi | hi
  ·have hxx:(i:Int)<aa:=by omega
   have wx:IntKind.i64.wrap ((i:Int)+1)=((i+1:Nat):Int):=by rw [aP (by omega) (by omega)];omega
   have wS:IntKind.i64.wrap ((R:Int)+i)=((R+i:Nat):Int):=by rw [aP (by omega) (by omega)];omega
   obtain ⟨zi,ezi⟩:∃zi:Int,zi=(i:Int)+N:=⟨_,rfl⟩
   have wz:IntKind.i64.wrap ((i:Int)+N)=zi:=by rw [aP (by omega) (by omega)];omega
   simp -implicitDefEqProofs -dsimp only [ah,hxx,vcS,↓an,↓ak,simprocAttr]
   refine gL fun B1 kb=>?_
   have j2':=kb.at j2 (by simp)
   have kB:aA T B1 []:=j3.new kb (by simp)
   have lm:=gm (L:=L) (M:=M) (a:=R+x) (b:=R+i) (by omega) (by omega) hM
   have iV:=hat i j0 hi
   have b0:(0:Int)≤((R+i:Nat):Int):=by omega
   have b1:((R+i:Nat):Int)<L.length:=by omega
   have hg:=bw (L:=fD L M (R+x) (R+i)) (i:=R+i) (by omega)
   rw [show aN.row=[.int .i32 32,.int .u16 0,.int .u8 0] from rfl]
   rcases Decidable.em (i+N<aa) with hz | hz
   ·have hzz:zi<(aa:Int):=by omega
    rw [if_pos hz] at iV
    obtain ⟨Q,eQ⟩:∃Q,Q=R+i+N:=⟨_,rfl⟩
    rw [←eQ] at iV
    have wQ:IntKind.i64.wrap (((R+i:Nat):Int)+N)=(Q:Int):=by rw [aP (by omega) (by omega)];omega
    have d0:(0:Int)≤(Q:Int):=by omega
    have d1:(Q:Int)<L.length:=by omega
    have hg2:=bw (L:=L) (i:=Q) (by omega)
    have cv:=bP (fD L M (R+x) (R+i)) (R+i) (L.getD Q aN)
    rw [fU (by omega) (by omega) hM iV.symm] at cv
    generalize L.getD Q aN=c at *
    simp -implicitDefEqProofs -dsimp only [ah,ai j2',hxx,wz,hzz,wQ,d0,d1,hg2,aH,wR,wS,wx,b0,b1,hg,cv,ax,vcS,↓an,↓ak,simprocAttr]
    exact ⟨(i+1,_),⟨rfl,aJ _⟩,⟨by dsimp only;omega,hi,gO (bX j2' _) _,((kB.put (Dd.ge hp) _).eD _)⟩,by dsimp only;omega⟩
   ·have hzz:¬zi<(aa:Int):=by omega
    rw [if_neg hz] at iV
    have cv:=bP (fD L M (R+x) (R+i)) (R+i) aN
    rw [fU (by omega) (by omega) hM iV.symm] at cv
    change (av (fD L M (R+x) (R+i))).set (R+i) [.int .i32 32,.int .u16 0,.int .u8 0]=_ at cv
    simp -implicitDefEqProofs -dsimp only [ah,ai j2',hxx,wz,eq_false hzz,wR,wS,wx,b0,b1,hg,cv,ax,vcS,↓an,↓ak,simprocAttr]
    exact ⟨(i+1,_),⟨rfl,aJ _⟩,⟨by dsimp only;omega,hi,gO (bX j2' _) _,((kB.put (Dd.ge hp) _).eD _)⟩,by dsimp only;omega⟩
  ·have hxx:¬(i:Int)<aa:=by omega
   obtain rfl:i=aa:=by omega
   rw [mg (by omega) (by omega) hM fun j hj=>hout j (by omega)] at j2
   simp -implicitDefEqProofs -dsimp only [ah,ai j2,hxx,aH,hM,Nat.le_refl,List.take_length,vcS,↓an,↓ak,simprocAttr]
   rw [←hM]
   refine tQ j2 gM hy fun T2 p2 hp2 hA2 k2=>?_
   simp -implicitDefEqProofs -dsimp only [ah,vcS,↓an,↓ak,simprocAttr]
   exact VV hA2 (gw gM hy).symm (j3.new k2 (by simp)) (by have:=j3.1;omega) h
noncomputable def M0:RFn:=⟨3,15,(SR [MB 6 false] [0,1,2] (SR [MV 7 0,MV 8 1,BT 9 .geq 7 8,MV 10 9,MG 11 0 10 true,MG 12 2 10 true,OG 13 (.bin .leq (.t 11) (.t 12)) 10 true,OP 14 (.pick (.t 10) (.t 13) (.c (.bool false))),MV 6 14] [6] .ret)),[.t 6]⟩
theorem Sf:aK PG.P [⟨0,0,[0,1,2],[]⟩,⟨1,0,[6],[]⟩] 134=some M0:=by kernel_rfl
noncomputable def ug:RC:=(.seq (SR [MV 29 4,MV 30 3,OP 31 (.len (.t 30)),BT 32 .lss 29 31] [0,3,4,32] (.cond (.t 32) .skip (.ext 0))) (.seq (.blk 1 (.seq (.cK (.take (MV 35 0) [] (.take (MV 36 3) [] (.take (MV 37 4) [] (.take (OP 38 (.aT 1 (.t 36) (.t 37))) [] (.take (LD 39 38) [] (.take (MV 40 3) [] (.take (MV 41 4) [] (.take (BI 42 .add 41 1) [] (.take (OP 43 (.aT 1 (.t 40) (.t 42))) [] (.take (LD 44 43) [] (.mid (OP 45 (.call 134 [.t 35,.t 39,.t 44])) .done))))))))))) 0 [0,3,4,45]) (.cond (.t 45) (SR [OP 2 (.mov (.c (.int .i64 2)))] [2] .ret) .skip))) (.reg [MV 33 4,BI 34 .add 33 2,MV 4 34] 0 [0,3,4])))
noncomputable def dS:RFn:=⟨1,46,(SR [OP 2 (.mov (.c (.int .i64 0)))] [0] (.seq (SR [MV 5 0,OP 6 (.call 87 [.t 5]),OP 7 (.un .not (.t 6)),MV 8 7,MG 9 0 8 false,OG 10 (.bin .lss (.t 9) (.c (.int .i32 32))) 8 false,OP 11 (.pick (.t 8) (.c (.bool true)) (.t 10)),MV 12 11,MG 13 0 12 false,OG 14 (.call 134 [.t 13,.c (.int .i32 127),.c (.int .i32 159)]) 12 false,OP 15 (.pick (.t 12) (.c (.bool true)) (.t 14)),MV 16 15,MG 17 0 16 false,OG 18 (.call 134 [.t 17,.c (.int .i32 768),.c (.int .i32 879)]) 16 false,OP 19 (.pick (.t 16) (.c (.bool true)) (.t 18)),MV 20 19,MG 21 0 20 false,OG 22 (.call 134 [.t 21,.c (.int .i32 8203),.c (.int .i32 8207)]) 20 false,OP 23 (.pick (.t 20) (.c (.bool true)) (.t 22)),MV 24 23,MG 25 0 24 false,OG 26 (.call 134 [.t 25,.c (.int .i32 65024),.c (.int .i32 65039)]) 24 false,OP 27 (.pick (.t 24) (.c (.bool true)) (.t 26))] [0,27] (.cond (.t 27) (SR [OP 2 (.mov (.c (.int .i64 0)))] [2] .ret) .skip)) (SR [OP 28 (.bJ 1 [.int .i32 0] 30 [(0,(.c (.int .i32 4352))),(1,(.c (.int .i32 4447))),(2,(.c (.int .i32 11904))),(3,(.c (.int .i32 12350))),(4,(.c (.int .i32 12353))),(5,(.c (.int .i32 13311))),(6,(.c (.int .i32 13312))),(7,(.c (.int .i32 19903))),(8,(.c (.int .i32 19968))),(9,(.c (.int .i32 40959))),(10,(.c (.int .i32 40960))),(11,(.c (.int .i32 42191))),(12,(.c (.int .i32 44032))),(13,(.c (.int .i32 55203))),(14,(.c (.int .i32 63744))),(15,(.c (.int .i32 64255))),(16,(.c (.int .i32 65072))),(17,(.c (.int .i32 65135))),(18,(.c (.int .i32 65280))),(19,(.c (.int .i32 65376))),(20,(.c (.int .i32 65504))),(21,(.c (.int .i32 65510))),(22,(.c (.int .i32 127744))),(23,(.c (.int .i32 128591))),(24,(.c (.int .i32 129280))),(25,(.c (.int .i32 129535))),(26,(.c (.int .i32 131072))),(27,(.c (.int .i32 196605))),(28,(.c (.int .i32 196608))),(29,(.c (.int .i32 262141)))]),MV 3 28] [0,3] (.seq (SR [OP 4 (.mov (.c (.int .i64 0)))] [0,3,4] (.blk 0 (.loop ug))) (SR [OP 2 (.mov (.c (.int .i64 1)))] [2] .ret))))),[.t 2]⟩
theorem fZ:aK PG.P [⟨0,0,[0],[]⟩,⟨1,0,[0,27],[]⟩,⟨2,0,[2],[]⟩,⟨3,0,[0,3],[]⟩,⟨4,0,[0,3,4],[]⟩,⟨5,0,[0,3,4,32],[]⟩,⟨6,0,[0,3,4],[]⟩,⟨7,0,[0,3,4,45],[]⟩,⟨8,0,[2],[]⟩,⟨9,0,[2],[]⟩] 113=some dS:=by kernel_rfl
noncomputable def jJ:RFn:=⟨3,23,(SR [OP 6 (.mov (.c (.int .i64 0)))] [0,1,2] (.seq (SR [MV 7 1,MV 8 0,OP 9 (.len (.t 8)),BT 10 .geq 7 9,MV 11 10,MG 12 0 11 false,MG 13 1 11 false,OG 14 (.aT 1 (.t 12) (.t 13)) 11 false,LG 15 14 11 false,OG 16 (.bin .eql (.t 15) (.c (.int .i64 0))) 11 false,OP 17 (.pick (.t 11) (.c (.bool true)) (.t 16))] [0,1,2,17] (.cond (.t 17) (SR [MV 18 2,MV 6 18] [6] .ret) .skip)) (SR [MV 19 0,MV 20 1,OP 21 (.aT 1 (.t 19) (.t 20)),LD 22 21,MV 6 22] [6] .ret))),[.t 6]⟩
theorem og:aK PG.P [⟨0,0,[0,1,2],[]⟩,⟨1,0,[0,1,2,17],[]⟩,⟨2,0,[6],[]⟩,⟨3,0,[6],[]⟩] 116=some jJ:=by kernel_rfl
noncomputable def cA:RFn:=⟨2,77,(SR [OP 4 (.mov (.c (.int .u16 0)))] [0,1] (.seq (.blk 0 (SR [MV 6 1,BI 7 .eql 6 0,MV 5 7] [0,1,5] (.cond (.t 5) (SR [OP 4 (.mov (.c (.int .u16 0)))] [4] .ret) (SR [MV 9 1,BI 10 .eql 9 1,MV 8 10] [0,1,8] (.cond (.t 8) (SR [MV 11 0,OP 12 (.bin .or (.t 11) (.c (.int .u16 1))),MV 4 12] [4] .ret) (SR [MV 14 1,BI 15 .eql 14 4,MV 13 15] [0,1,13] (.cond (.t 13) (SR [MV 16 0,OP 17 (.bin .or (.t 16) (.c (.int .u16 2))),MV 4 17] [4] .ret) (SR [MV 19 1,BI 20 .eql 19 7,MV 18 20] [0,1,18] (.cond (.t 18) (SR [MV 21 0,OP 22 (.bin .or (.t 21) (.c (.int .u16 4))),MV 4 22] [4] .ret) (SR [MV 24 1,BI 25 .eql 24 22,MV 23 25] [0,1,23] (.cond (.t 23) (SR [MV 26 0,OP 27 (.bin .andNot (.t 26) (.c (.int .u16 1))),MV 4 27] [4] .ret) (SR [MV 29 1,BI 30 .eql 29 24,MV 28 30] [0,1,28] (.cond (.t 28) (SR [MV 31 0,OP 32 (.bin .andNot (.t 31) (.c (.int .u16 2))),MV 4 32] [4] .ret) (SR [MV 34 1,BI 35 .eql 34 27,MV 33 35] [0,1,33] (.cond (.t 33) (SR [MV 36 0,OP 37 (.bin .andNot (.t 36) (.c (.int .u16 4))),MV 4 37] [4] .ret) (SR [MV 39 1,BI 40 .geq 39 30,MV 41 40,MG 42 1 41 true,OG 43 (.bin .leq (.t 42) (.c (.int .i64 37))) 41 true,OP 44 (.pick (.t 41) (.t 43) (.c (.bool false))),MV 38 44] [0,1,38] (.cond (.t 38) (SR [MV 45 0,OP 46 (.bin .andNot (.t 45) (.c (.int .u16 240))),MV 47 1,BI 48 .sub 47 29,OP 49 (.conv (.i2i .u16) (.t 48)),OP 50 (.bin .shl (.t 49) (.c (.int .u64 4))),BT 51 .or 46 50,MV 4 51] [4] .ret) (SR [MV 53 1,BI 54 .eql 53 39,MV 52 54] [0,1,52] (.cond (.t 52) (SR [MV 55 0,OP 56 (.bin .andNot (.t 55) (.c (.int .u16 240))),MV 4 56] [4] .ret) (SR [MV 58 1,BI 59 .geq 58 40,MV 60 59,MG 61 1 60 true,OG 62 (.bin .leq (.t 61) (.c (.int .i64 47))) 60 true,OP 63 (.pick (.t 60) (.t 62) (.c (.bool false))),MV 57 63] [0,1,57] (.cond (.t 57) (SR [MV 64 0,OP 65 (.bin .andNot (.t 64) (.c (.int .u16 3840))),MV 66 1,BI 67 .sub 66 39,OP 68 (.conv (.i2i .u16) (.t 67)),OP 69 (.bin .shl (.t 68) (.c (.int .u64 8))),BT 70 .or 65 69,MV 4 70] [4] .ret) (SR [MV 72 1,BI 73 .eql 72 49,MV 71 73] [0,71] (.cond (.t 71) (SR [MV 74 0,OP 75 (.bin .andNot (.t 74) (.c (.int .u16 3840))),MV 4 75] [4] .ret) .skip))))))))))))))))))))))) (SR [MV 76 0,MV 4 76] [4] .ret))),[.t 4]⟩
theorem dK:aK PG.P [⟨0,0,[0,1],[]⟩,⟨1,0,[0,1,5],[]⟩,⟨2,0,[4],[]⟩,⟨3,0,[0,1,8],[]⟩,⟨4,0,[4],[]⟩,⟨5,0,[0,1,13],[]⟩,⟨6,0,[4],[]⟩,⟨7,0,[0,1,18],[]⟩,⟨8,0,[4],[]⟩,⟨9,0,[0,1,23],[]⟩,⟨10,0,[4],[]⟩,⟨11,0,[0,1,28],[]⟩,⟨12,0,[4],[]⟩,⟨13,0,[0,1,33],[]⟩,⟨14,0,[4],[]⟩,⟨15,0,[0,1,38],[]⟩,⟨16,0,[4],[]⟩,⟨17,0,[0,1,52],[]⟩,⟨18,0,[4],[]⟩,⟨19,0,[0,1,57],[]⟩,⟨20,0,[4],[]⟩,⟨21,0,[0,71],[]⟩,⟨22,0,[4],[]⟩,⟨23,0,[4],[]⟩] 123=some cA:=by kernel_rfl
def TR0:FL:=[]
theorem aaQ:FOk PG (tab TR0):=FOk.nil
theorem aa9 {r:Int}{a:Int}{b:Int}(abX:-2147483648≤r∧r≤2147483647)(abZ:-2147483648≤a∧a≤2147483647)(mH:-2147483648≤b∧b≤2147483647) :
  az PG 134 [.int .i32 r,.int .i32 a,.int .i32 b] fun n RR OO=>RR=(((.bool (inR r a b),[])):DV × aj).1∧OO=(((.bool (inR r a b),[])):DV × aj).2:=by
 refine az.cY (res:=fun n=>((.bool (inR r a b),[]))) aaQ Sf (by simp [M0]) fun n=>?_
 unfold M0
 dsimp only
 simp -implicitDefEqProofs -dsimp only [vcS,↓an,↓ak,simprocAttr]
 unfold inR
 simp
 omega
def Mn:List DV→Option aS
 | [.int .i32 r,.int .i32 a,.int .i32 b]=>some ⟨(-2147483648≤r∧r≤2147483647)∧(-2147483648≤a∧a≤2147483647)∧(-2147483648≤b∧b≤2147483647)∧True,fun n=>((.bool (inR r a b),[]))⟩
 | _=>none
theorem ki (r:Int)(a:Int)(b:Int):Mn [.int .i32 r,.int .i32 a,.int .i32 b]=some ⟨(-2147483648≤r∧r≤2147483647)∧(-2147483648≤a∧a≤2147483647)∧(-2147483648≤b∧b≤2147483647)∧True,fun n=>((.bool (inR r a b),[]))⟩:=au _
theorem Zz (args:List DV)(s:aS)(hs:Mn args=some s)(hp:s.pre):az PG 134 args fun n r os=>r=(s.res n).1∧os=(s.res n).2:=by
 unfold Mn at hs
 split at hs
 ·rename_i r a b
  obtain rfl:=sj hs
  obtain ⟨abX,abZ,mH,hp⟩:=hp
  have this:=aa9 abX abZ mH
  exact this
 ·cases hs
def TR7:FL:=(134,.o Mn)::[(87,.o qx)]
theorem qb:FOk PG (tab TR7):=FOk.cons (FOk.cons FOk.nil Vn) Zz
theorem m7 (args:List DV):tab TR7 134 args=(Mn args).map .o:=au _
theorem kg (args:List DV):tab TR7 87 args=(qx args).map .o:=au _
theorem iM (r:Int):may r=Bn r:=by
 unfold may Bn
 rw [Bool.eq_iff_iff]
 simp only [Bool.and_eq_true,Bool.or_eq_true,decide_eq_true_eq]
 omega
def Is:List Int:=[0x1100,0x115f,0x2e80,0x303e,0x3041,0x33ff,0x3400,0x4dbf,0x4e00,0x9fff,0xa000,0xa4cf,0xac00,0xd7a3,0xf900,0xfaff,0xfe30,0xfe6f,0xff00,0xff60,0xffe0,0xffe6,0x1f300,0x1f64f,0x1f900,0x1f9ff,0x20000,0x2fffd,0x30000,0x3fffd]
theorem Ir:∀j<15,Is.getD (2*j) 0=(iF.getD j (0,0)).1∧Is.getD (2*j+1) 0=(iF.getD j (0,0)).2:=by decide
theorem Tx:∀j<15,(-2147483648≤(iF.getD j (0,0)).1∧(iF.getD j (0,0)).1≤2147483647)∧(-2147483648≤(iF.getD j (0,0)).2∧(iF.getD j (0,0)).2≤2147483647):=by decide
theorem RB {r:Int}{j:Nat}(hj:j<15)(h:inR r (iF.getD j (0,0)).1 (iF.getD j (0,0)).2=true):iF.any (fun p=>inR r p.1 p.2)=true:=by
 refine List.any_eq_true.2 ⟨iF.getD j (0,0), ?_,h⟩
 rw [List.getD_eq_getElem?_getD,List.getElem?_eq_getElem (show j<iF.length from hj)]
 exact List.getElem_mem _
theorem Mx {r:Int}(h:∀j<15,inR r (iF.getD j (0,0)).1 (iF.getD j (0,0)).2=false):iF.any (fun p=>inR r p.1 p.2)=false:=by
 rw [List.any_eq_false]
 intro p hp
 obtain ⟨j,hj,e⟩:=List.getElem_of_mem hp
 have:=h j hj
 rw [List.getD_eq_getElem?_getD,List.getElem?_eq_getElem hj,Option.getD_some,e] at this
 rw [this];simp
set_option maxHeartbeats 1000000 in
theorem Ii {T:aj}{K:DV→aj→Prop}{r:Int}(hr:-2147483648≤r∧r≤2147483647)(h:∀T',aA T T' []→K (.int .i64 (dy r)) T'):aq PG 113 [.int .i32 r] T K:=by
 have hz:(Bn r=false∨r<32∨inR r 0x7f 0x9f=true∨inR r 0x300 0x36f=true∨inR r 0x200b 0x200f=true∨inR r 0xfe00 0xfe0f=true)→dy r=0:=fun e=>by unfold dy;rw [if_pos e]
 have hn:¬(Bn r=false∨r<32∨inR r 0x7f 0x9f=true∨inR r 0x300 0x36f=true∨inR r 0x200b 0x200f=true∨inR r 0xfe00 0xfe0f=true)→dy r=if iF.any (fun p=>inR r p.1 p.2)=true then 2 else 1:=fun e=>by unfold dy;rw [if_neg e]
 cases e0:Bn r with
 | false=>
  rw [hz (.inl e0)] at h
  refine aq.aE qb fZ (by simp [dS]) ?_
  unfold dS
  dsimp only
  simp -implicitDefEqProofs -dsimp only [ah,m7,kg,ki,eF,iM,hr,e0,vcS,↓an,↓ak,simprocAttr]
  exact h T (aA.refl _ _)
 | true=>
  rcases Decidable.em (r<32) with e1 | e1
  ·skip
   rw [hz (.inr (.inl e1))] at h
   refine aq.aE qb fZ (by simp [dS]) ?_
   unfold dS
   dsimp only
   simp -implicitDefEqProofs -dsimp only [ah,m7,kg,ki,eF,iM,hr,e0,e1,vcS,↓an,↓ak,simprocAttr]
   exact h T (aA.refl _ _)
  ·skip
   cases e2:inR r 127 159 with
   | true=>
    rw [hz (.inr (.inr (.inl e2)))] at h
    refine aq.aE qb fZ (by simp [dS]) ?_
    unfold dS
    dsimp only
    simp -implicitDefEqProofs -dsimp only [ah,m7,kg,ki,eF,iM,hr,e0,e1,e2,vcS,↓an,↓ak,simprocAttr]
    exact h T (aA.refl _ _)
   | false=>
    cases e3:inR r 768 879 with
    | true=>
     rw [hz (.inr (.inr (.inr (.inl e3))))] at h
     refine aq.aE qb fZ (by simp [dS]) ?_
     unfold dS
     dsimp only
     simp -implicitDefEqProofs -dsimp only [ah,m7,kg,ki,eF,iM,hr,e0,e1,e2,e3,vcS,↓an,↓ak,simprocAttr]
     exact h T (aA.refl _ _)
    | false=>
     cases e4:inR r 8203 8207 with
     | true=>
      rw [hz (.inr (.inr (.inr (.inr (.inl e4)))))] at h
      refine aq.aE qb fZ (by simp [dS]) ?_
      unfold dS
      dsimp only
      simp -implicitDefEqProofs -dsimp only [ah,m7,kg,ki,eF,iM,hr,e0,e1,e2,e3,e4,vcS,↓an,↓ak,simprocAttr]
      exact h T (aA.refl _ _)
     | false=>
      cases e5:inR r 65024 65039 with
      | true=>
       rw [hz (.inr (.inr (.inr (.inr (.inr e5)))))] at h
       refine aq.aE qb fZ (by simp [dS]) ?_
       unfold dS
       dsimp only
       simp -implicitDefEqProofs -dsimp only [ah,m7,kg,ki,eF,iM,hr,e0,e1,e2,e3,e4,e5,vcS,↓an,↓ak,simprocAttr]
       exact h T (aA.refl _ _)
      | false=>
       have hn:=hn (by rw [e0,e2,e3,e4,e5];simp;omega)
       refine aq.aE qb fZ (by simp [dS]) ?_
       unfold dS
       dsimp only
       simp -implicitDefEqProofs -dsimp only [ah,m7,kg,ki,eF,iM,hr,e0,e1,e2,e3,e4,e5,vcS,↓an,↓ak,simprocAttr]
       refine bp.inv qb (S:=fun j:Nat=>⟨[(0,.int .i32 r),(3,.own T.length 0 30),(4,.int .i64 (2*j:Nat))],T++ [some (.arr 1 (af .i32 Is))]⟩)
        (I:=fun j=>j≤15∧∀k<j,inR r (iF.getD k (0,0)).1 (iF.getD k (0,0)).2=false) (μ:=fun j=>15-j) 0 ⟨by omega,fun k hk=>absurd hk (by omega)⟩ ?_ ?_
       ·simp -implicitDefEqProofs -dsimp only [ax,vcS,↓an,↓ak,simprocAttr]
        exact aJ _
       ·intro j ⟨j1,j2⟩
        unfold ug
        rcases Nat.lt_or_ge j 15 with hj | hj
        ·have hii:((2*j:Nat):Int)<30:=by omega
         have i0:(0:Int)≤((2*j:Nat):Int):=by omega
         have w1:IntKind.i64.wrap (((2*j:Nat):Int)+1)=((2*j+1:Nat):Int):=by rw [aP (by omega) (by omega)];omega
         have w2:IntKind.i64.wrap (((2*j:Nat):Int)+2)=((2*(j+1):Nat):Int):=by rw [aP (by omega) (by omega)];omega
         have k0:(0:Int)≤((2*j+1:Nat):Int):=by omega
         have k1:((2*j+1:Nat):Int)<30:=by omega
         have hl:(af .i32 Is).length=30:=by rw [gZ];rfl
         have g1:(af .i32 Is)[2*j]?=some [.int .i32 (iF.getD j (0,0)).1]:=by rw [←(Ir j hj).1,kH];simp [show 2*j<Is.length by show _<30;omega]
         have g2:(af .i32 Is)[2*j+1]?=some [.int .i32 (iF.getD j (0,0)).2]:=by rw [←(Ir j hj).2,kH];simp [show 2*j+1<Is.length by show _<30;omega]
         have hw:=Tx j hj
         generalize hW:iF.getD j (0,0)=w at *
         cases e6:inR r w.1 w.2 with
         | true=>
          simp -implicitDefEqProofs -dsimp only [ah,m7,kg,ki,eF,iM,hr,hii,i0,w1,w2,k0,k1,hl,g1,g2,hw,e6,Nat.zero_add,ax,vcS,↓an,↓ak,simprocAttr]
          rw [hn,if_pos (RB hj (by rw [hW];exact e6))] at h
          exact h _ (aA.app _ _ _)
         | false=>
          simp -implicitDefEqProofs -dsimp only [ah,m7,kg,ki,eF,iM,hr,hii,i0,w1,w2,k0,k1,hl,g1,g2,hw,e6,Nat.zero_add,ax,vcS,↓an,↓ak,simprocAttr]
          refine ⟨j+1,rfl,⟨hj,fun k hk=>?_⟩,by omega⟩
          rcases Nat.lt_or_ge k j with h' | h'
          ·exact j2 k h'
          ·obtain rfl:k=j:=by omega
           rw [hW];exact e6
        ·have hii:¬((2*j:Nat):Int)<30:=by omega
         simp -implicitDefEqProofs -dsimp only [ah,m7,kg,ki,eF,iM,hr,hii,ax,vcS,↓an,↓ak,simprocAttr]
         rw [hn,Mx (fun k hk=>j2 k (by omega))] at h
         exact h _ (aA.app _ _ _)
theorem NA {L:List Ce}{aa y:Nat}{f t:Int}:kJ L aa y (cI f aa:Nat) (max (cI f aa) (cI t aa):Nat)=kJ L aa y f t:=by
 unfold kJ
 have h1:cI ((cI f aa:Nat):Int) aa=cI f aa:=by unfold cI;omega
 have h2:max (cI f aa) (cI ((max (cI f aa) (cI t aa):Nat):Int) aa)=max (cI f aa) (cI t aa):=by unfold cI;omega
 rw [h1,h2]
theorem Tq {T:aj}{sz:Nat}{k:SK}{L:List Ce}{rows aa y:Nat}{f t:Int}{K:DV→aj→Prop}(hs:sz=3)(g:bW L rows aa)(hy:y<rows)
  (h:∀T',aA T T' []→K (.sl 3 (av (kJ L aa y f t)) .any) T'):aq PG 122 [.sl sz (av L) k,.int .i64 aa,.int .i64 y,.int .i64 f,.int .i64 t] T K:=by
 subst hs
 have h1:=g.r
 have h2:=g.c
 have hl:=g.lim
 have hgl:L.length=rows*aa:=g.len
 have hrow:=dc (aa:=aa) hy
 have ys:=bB y aa
 obtain ⟨a,ea⟩:∃a,a=cI f aa:=⟨_,rfl⟩
 obtain ⟨b,eb⟩:∃b,b=cI t aa:=⟨_,rfl⟩
 have ha:min (max f 0) (aa:Int)=(a:Int):=by unfold cI at ea;omega
 have hb:min (max t 0) (aa:Int)=(b:Int):=by unfold cI at eb;omega
 have ac:a≤aa:=by unfold cI at ea;omega
 have bc:b≤aa:=by unfold cI at eb;omega
 have eL:=J4 (L:=L) (a:=a) (b:=max a b) g hy (Nat.le_max_left _ _) (by omega)
 rw [ea,eb,NA,←ea,←eb] at eL
 have hM:(fX L (y*aa+a) (y*aa+max a b)).length=L.length:=fW (by omega) (by omega)
 have hat:=fun {i:Nat}=>iX (L:=L) (a:=y*aa+a) (b:=y*aa+max a b) (i:=i) (by omega) (by omega)
 obtain ⟨M,eM⟩:∃M,M=fX L (y*aa+a) (y*aa+max a b):=⟨_,rfl⟩
 rw [←eM] at eL hM hat
 have gM:bW M rows aa:=g.eI hM
 rw [←eL] at h
 clear eL eM ea eb
 obtain ⟨R,eR⟩:∃R,R=y*aa:=⟨_,rfl⟩
 have wR:IntKind.i64.wrap ((y:Int)*aa)=(R:Int):=by
  have:(y:Int)*aa=(R:Int):=by rw [eR];simp
  rw [this];exact aP (by omega) (by omega)
 rw [←eR] at hat
 refine aq.fK FOk.nil GC (by simp [v9]) ?_
 unfold v9
 dsimp only
 simp -implicitDefEqProofs -dsimp only [ah,vcS,↓an,↓ak,simprocAttr]
 refine oZ rfl hl.2 hl.1 fun T1 p hp hA k1=>?_
 simp -implicitDefEqProofs -dsimp only [ah,vcS,↓an,↓ak,simprocAttr]
 refine zO (x:=0) g hy (by omega) ?_
 simp -implicitDefEqProofs -dsimp only [ah,ha,hb,vcS,↓an,↓ak,simprocAttr]
 refine bp.inv FOk.nil (S:=fun s:Nat × aj=>⟨[(1,.int .i64 aa),(2,.int .i64 y),(4,.int .i64 b),(11,.own p 0 L.length),(12,.int .i64 s.1)],s.2⟩)
  (I:=fun s=>a≤s.1∧s.1≤max a b∧s.2[p]?=some (some (.arr 3 (av (fD L M (R+a) (R+s.1)))))∧aA T s.2 [])
  (μ:=fun s=>max a b-s.1) (a,T1) ⟨Nat.le_refl _,Nat.le_max_left _ _,by rw [me];exact hA,k1⟩ ?_ ?_
 ·simp -implicitDefEqProofs -dsimp only [ax,vcS,↓an,↓ak,simprocAttr]
 ·intro ⟨i,B⟩ ⟨j0,j1,j2,j3⟩
  dsimp only at j0 j1 j2 j3 ⊢
  unfold uh
  rcases Nat.lt_or_ge i b with hi | hi
  ·have hxx:(i:Int)<b:=by omega
   have wx:IntKind.i64.wrap ((i:Int)+1)=((i+1:Nat):Int):=by rw [aP (by omega) (by omega)];omega
   have wS:IntKind.i64.wrap ((R:Int)+i)=((R+i:Nat):Int):=by rw [aP (by omega) (by omega)];omega
   have lm:=gm (L:=L) (M:=M) (a:=R+a) (b:=R+i) (by omega) (by omega) hM
   have iV:=hat (i:=R+i)
   rw [if_pos (by omega)] at iV
   have b0:(0:Int)≤((R+i:Nat):Int):=by omega
   have b1:((R+i:Nat):Int)<L.length:=by omega
   have hg:=bw (L:=fD L M (R+a) (R+i)) (i:=R+i) (by omega)
   have cv:=bP (fD L M (R+a) (R+i)) (R+i) aN
   rw [fU (by omega) (by omega) hM iV.symm] at cv
   change (av (fD L M (R+a) (R+i))).set (R+i) [.int .i32 32,.int .u16 0,.int .u8 0]=_ at cv
   simp -implicitDefEqProofs -dsimp only [ah,ai j2,hxx,wR,wS,vcS,↓an,↓ak,simprocAttr]
   refine gL fun B1 kb=>?_
   have j2':=kb.at j2 (by simp)
   have kB:aA T B1 []:=j3.new kb (by simp)
   rw [show aN.row=[.int .i32 32,.int .u16 0,.int .u8 0] from rfl]
   simp -implicitDefEqProofs -dsimp only [ah,ai j2',hxx,wR,wS,wx,b0,b1,hg,cv,ax,vcS,↓an,↓ak,simprocAttr]
   exact ⟨(i+1,_),⟨rfl,aJ _⟩,⟨by dsimp only;omega,by dsimp only;omega,bX j2' _,kB.put (Dd.ge hp) _⟩,by dsimp only;omega⟩
  ·have hxx:¬(i:Int)<b:=by omega
   obtain rfl:i=max a b:=by omega
   rw [mg (by omega) (by omega) hM fun j hj=>by rw [hat,if_neg hj]] at j2
   simp -implicitDefEqProofs -dsimp only [ah,ai j2,eq_false hxx,vcS,↓an,↓ak,simprocAttr]
   rw [←hM]
   refine tQ j2 gM hy fun T2 p2 hp2 hA2 k2=>?_
   simp -implicitDefEqProofs -dsimp only [ah,vcS,↓an,↓ak,simprocAttr]
   exact VV hA2 (gw gM hy).symm (j3.new k2 (by simp)) (by have:=j3.1;omega) h
theorem Tk {T:aj}{K:DV→aj→Prop}{sz i:Nat}{sk:SK}{ps:List Int}{u:Int}(hs:sz=1∨ps=[])(hl:ps.length≤1000000)(h:K (.int .i64 (if bE ps i=0 then u else bE ps i)) T):aq PG 116 [.sl sz (af .i64 ps) sk,.int .i64 i,.int .i64 u] T K:=by
 have hlr:(af .i64 ps).length=ps.length:=by simp [af]
 rcases Nat.lt_or_ge i ps.length with hlt | hge
 ·have hi:¬(ps.length:Int)≤i:=by omega
  have i0:(0:Int)≤i:=by omega
  have i1:(i:Int)<ps.length:=by omega
  have hsz:sz=1:=by rcases hs with h | h;exact h;subst h;simp at hlt
  subst hsz
  have hg:(af .i64 ps)[i]?=some [.int .i64 (ps.getD i 0)]:=by simp [af,hlt]
  unfold bE at h
  generalize ps.getD i 0=x at *
  rcases Decidable.em (x=0) with e | e
  ·rw [if_pos e] at h
   refine aq.aE FOk.nil og (by simp [jJ]) ?_
   unfold jJ
   dsimp only
   simp -implicitDefEqProofs -dsimp only [ah,hlr,hi,i0,i1,hg,eq_true e,Nat.zero_add,vcS,↓an,↓ak,simprocAttr]
   exact h
  ·rw [if_neg e] at h
   refine aq.aE FOk.nil og (by simp [jJ]) ?_
   unfold jJ
   dsimp only
   simp -implicitDefEqProofs -dsimp only [ah,hlr,hi,i0,i1,hg,eq_false e,Nat.zero_add,vcS,↓an,↓ak,simprocAttr]
   exact h
 ·have hi:(ps.length:Int)≤i:=by omega
  have e:bE ps i=0:=by unfold bE;rw [List.getD_eq_getElem?_getD,List.getElem?_eq_none hge];rfl
  rw [if_pos e] at h
  refine aq.aE FOk.nil og (by simp [jJ]) ?_
  unfold jJ
  dsimp only
  simp -implicitDefEqProofs -dsimp only [ah,hlr,hi,vcS,↓an,↓ak,simprocAttr]
  exact h
end Go.Proofs.YtjmnbpilnneonaaGreatDoor
