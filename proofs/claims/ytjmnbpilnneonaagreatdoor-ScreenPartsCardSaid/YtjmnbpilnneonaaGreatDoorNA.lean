/- Texts H17, H18, H19, C14 in one. -/
import Derived.Test.YtjmnbpilnneonaaGreatDoorN9
import Derived.Test.YtjmnbpilnneonaaGreatDoorM7
import Derived.Test.YtjmnbpilnneonaaGreatDoorM8
set_option linter.unusedVariables false
set_option linter.unusedSimpArgs false
set_option maxRecDepth 10000
namespace Go.Proofs.YtjmnbpilnneonaaGreatDoor
open Go.RowKit
noncomputable def wG:RFn:=⟨1,58,(SR [OP 1 (.box 3 (.t 0)),MB 2 false] [1] (.seq (SR [FA 3 0 1,LD 4 3,OP 5 (.bin .lss (.t 4) (.c (.int .i32 0))),MV 6 5,FG 7 0 1 6 false,LG 8 7 6 false,OG 9 (.bin .gtr (.t 8) (.c (.int .i32 1114111))) 6 false,OP 10 (.pick (.t 6) (.c (.bool true)) (.t 9)),MV 11 10,FG 12 0 1 11 false,LG 13 12 11 false,OG 14 (.bin .geq (.t 13) (.c (.int .i32 55296))) 11 false,MG 15 14 11 false,FG 16 0 1 15 true,LG 17 16 15 true,OG 18 (.bin .lss (.t 17) (.c (.int .i32 57344))) 15 true,OG 19 (.pick (.t 15) (.t 18) (.c (.bool false))) 11 false,OP 20 (.pick (.t 11) (.c (.bool true)) (.t 19)),MV 21 20,FG 22 2 1 21 false,LG 23 22 21 false,OG 24 (.bin .gtr (.t 23) (.c (.int .u8 2))) 21 false,OP 25 (.pick (.t 21) (.c (.bool true)) (.t 24)),MV 26 25,FG 27 0 1 26 false,LG 28 27 26 false,OG 29 (.bin .eql (.t 28) (.c (.int .i32 0))) 26 false,FG 30 2 1 26 false,LG 31 30 26 false,OG 32 (.bin .eql (.t 31) (.c (.int .u8 2))) 26 false,OG 33 (.eqB true (.t 29) (.t 32)) 26 false,OP 34 (.pick (.t 26) (.c (.bool true)) (.t 33))] [1,34] (.cond (.t 34) (SR [MB 2 false] [2] .ret) .skip)) (SR [FA 35 1 1,LD 36 35,OP 37 (.bin .lss (.t 36) (.c (.int .u16 4096))),MV 38 37,FG 39 1 1 38 true,LG 40 39 38 true,OG 41 (.bin .and (.t 40) (.c (.int .u16 8))) 38 true,OG 42 (.bin .eql (.t 41) (.c (.int .u16 0))) 38 true,OP 43 (.pick (.t 38) (.t 42) (.c (.bool false))),MV 44 43,FG 45 1 1 44 true,LG 46 45 44 true,OG 47 (.bin .shr (.t 46) (.c (.int .u64 4))) 44 true,OG 48 (.bin .and (.t 47) (.c (.int .u16 15))) 44 true,OG 49 (.bin .leq (.t 48) (.c (.int .u16 8))) 44 true,OP 50 (.pick (.t 44) (.t 49) (.c (.bool false))),MV 51 50,FG 52 1 1 51 true,LG 53 52 51 true,OG 54 (.bin .shr (.t 53) (.c (.int .u64 8))) 51 true,OG 55 (.bin .and (.t 54) (.c (.int .u16 15))) 51 true,OG 56 (.bin .leq (.t 55) (.c (.int .u16 8))) 51 true,OP 57 (.pick (.t 51) (.t 56) (.c (.bool false))),MV 2 57] [2] .ret))),[.t 2]⟩
theorem G9:aK PG.P [⟨0,0,[1],[]⟩,⟨1,0,[1,34],[]⟩,⟨2,0,[2],[]⟩,⟨3,0,[2],[]⟩] 47=some wG:=by kernel_rfl
noncomputable def wE:RFn:=⟨1,6,(SR [OP 1 (.box 3 (.t 0)),MB 2 false] [1] (SR [LT 3 3 1,OP 4 (.call 47 [.t 3]),OP 5 (.un .not (.t 4)),MV 2 5] [2] .ret)),[.t 2]⟩
theorem GX:aK PG.P [⟨0,0,[1],[]⟩,⟨1,0,[2],[]⟩] 46=some wE:=by kernel_rfl
noncomputable def uz:RC:=(SR [BT 9 .lss 8 7] [0,1,7,8,9] (.seq (.cond (.t 9) .skip (.ext 0)) (.seq (.blk 1 (SR [MV 10 8,MV 5 10] [0,1,5,7,8] (SR [MV 11 1,MV 12 0,MV 13 5,OP 14 (.aT 3 (.t 12) (.t 13)),LT 15 3 14,OP 16 (.iH (.t 11) [.t 15])] [0,1,5,7,8,16] (.cond (.t 16) (SR [MV 17 5,MV 4 17] [4] .ret) .skip)))) (.reg [BI 18 .add 8 1,MV 8 18] 0 [0,1,7,8]))))
noncomputable def wU:RFn:=⟨2,19,(SR [OP 4 (.mov (.c (.int .i64 0)))] [0,1] (.seq (SR [MV 6 0,OP 7 (.len (.t 6)),OP 8 (.mov (.c (.int .i64 0)))] [0,1,7,8] (.blk 0 (.loop uz))) (SR [OP 4 (.mov (.c (.int .i64 (-1))))] [4] .ret))),[.t 4]⟩
theorem Hv:aK PG.P [⟨0,0,[0,1],[]⟩,⟨1,0,[0,1,7,8],[]⟩,⟨2,0,[0,1,7,8,9],[]⟩,⟨3,0,[0,1,5,7,8],[]⟩,⟨4,0,[0,1,5,7,8,16],[]⟩,⟨5,0,[4],[]⟩,⟨6,0,[0,1,7,8],[]⟩,⟨7,0,[4],[]⟩] 81=some wU:=by kernel_rfl
noncomputable def ow:RFn:=⟨2,9,(SR [MB 4 false] [0,1] (SR [MV 5 0,MV 6 1,OP 7 (.call 81 [.t 5,.t 6]),BI 8 .geq 7 0,MV 4 8] [4] .ret)),[.t 4]⟩
theorem zm:aK PG.P [⟨0,0,[0,1],[]⟩,⟨1,0,[4],[]⟩] 45=some ow:=by kernel_rfl
def vf (c:Ce):Prop:=(-2147483648≤c.r∧c.r≤2147483647)∧(0≤c.a∧c.a≤65535)∧(0≤c.h∧c.h≤255)
def atB (a:Int):Bool:=decide (a<4096) && decide (a.toNat &&& 8=0) && decide ((a.toNat / 16) &&& 15≤8) && decide ((a.toNat / 256) &&& 15≤8)
def ceB (c:Ce):Bool:=decide (0≤c.r∧c.r≤1114111∧¬(55296≤c.r∧c.r<57344)∧c.h≤2∧(c.r=0↔c.h=2)) && atB c.a
theorem Wm {a:Int}(m:Nat)(hm:m≤65535)(ha:0≤a∧a≤65535):IntKind.u16.wrap ((BitVec.ofInt IntKind.u16.bits a &&& BitVec.ofInt IntKind.u16.bits (m:Int)).toNat:Nat)=((a.toNat &&& m:Nat):Int):=by
 have h1:a.toNat &&& m≤a.toNat:=Nat.and_le_left
 rw [BitVec.toNat_and,ofInt16 ha,ofInt16 (a:=(m:Int)) (by omega),Int.toNat_natCast]
 exact CX (by omega) (by omega)
theorem I9 {T:aj}{c:Ce}{K:DV→aj→Prop}(hc:vf c)(h:∀T',aA T T' []→K (.bool (ceB c)) T'):aq PG 47 [.agg c.row] T K:=by
 obtain ⟨r,a,hh⟩:=c
 obtain ⟨h1,h2,h3⟩:=hc
 dsimp only at h1 h2 h3
 have s4:a.fdiv (2 ^ min 4 IntKind.u16.bits)=((a.toNat / 16:Nat):Int):=by
  rw [show min 4 IntKind.u16.bits=4 from rfl,Int.fdiv_eq_ediv_of_nonneg _ (by decide)]
  omega
 have s8:a.fdiv (2 ^ min 8 IntKind.u16.bits)=((a.toNat / 256:Nat):Int):=by
  rw [show min 8 IntKind.u16.bits=8 from rfl,Int.fdiv_eq_ediv_of_nonneg _ (by decide)]
  omega
 have a8:IntKind.u16.wrap ((BitVec.ofInt IntKind.u16.bits a &&& BitVec.ofInt IntKind.u16.bits 8).toNat:Nat)=((a.toNat &&& 8:Nat):Int):=Wm 8 (by decide) h2
 have a4:IntKind.u16.wrap ((BitVec.ofInt IntKind.u16.bits ((a.toNat / 16:Nat):Int) &&& BitVec.ofInt IntKind.u16.bits 15).toNat:Nat)=(((a.toNat / 16) &&& 15:Nat):Int):=Wm (a:=((a.toNat / 16:Nat):Int)) 15 (by decide) (by omega)
 have a9:IntKind.u16.wrap ((BitVec.ofInt IntKind.u16.bits ((a.toNat / 256:Nat):Int) &&& BitVec.ofInt IntKind.u16.bits 15).toNat:Nat)=(((a.toNat / 256) &&& 15:Nat):Int):=Wm (a:=((a.toNat / 256:Nat):Int)) 15 (by decide) (by omega)
 unfold Ce.row
 refine aq.aE FOk.nil G9 (by simp [wG]) ?_
 unfold wG
 dsimp only
 simp -implicitDefEqProofs -dsimp only [ah,show (4:Int).toNat=4 from rfl,show (8:Int).toNat=8 from rfl,s4,s8,a8,a4,a9,vcS,↓an,↓ak,simprocAttr]
 generalize hX:T++ [some (Ob.box [.int .i32 r,.int .u16 a,.int .u8 hh])]=X
 have kT:∀b,b=ceB ⟨r,a,hh⟩→K (.bool b) X:=fun b e=>by rw [e,←hX];exact h _ (aA.app _ _ _)
 clear h s4 s8 a8 a4 a9
 have e1:(decide (r=0)=decide (hh=2))↔(r=0↔hh=2):=by rw [decide_eq_decide]
 simp only [e1]
 repeat' (first | intro _ | apply And.intro)
 all_goals
  refine kT _ ?_
  unfold ceB atB
  dsimp only
  first
   | (symm;rw [Bool.and_eq_false_iff];left;rw [decide_eq_false_iff_not];omega)
   | (rw [decide_eq_true (by omega),Bool.true_and];simp [*];done)
   | (rw [decide_eq_true (by omega),Bool.true_and];simp [*];omega)
   | (rw [Bool.eq_iff_iff];simp only [Bool.and_eq_true,decide_eq_true_eq];omega)
theorem Uj {T:aj}{c:Ce}{K:DV→aj→Prop}(hc:vf c)(h:∀T',aA T T' []→K (.bool (!ceB c)) T'):aq PG 46 [.agg c.row] T K:=by
 have er:c.row=[.int .i32 c.r,.int .u16 c.a,.int .u8 c.h]:=rfl
 refine aq.aE FOk.nil GX (by simp [wE]) ?_
 unfold wE
 dsimp only
 rw [er]
 simp -implicitDefEqProofs -dsimp only [ah,vcS,↓an,↓ak,simprocAttr]
 refine I9 hc fun T' k=>?_
 simp -implicitDefEqProofs -dsimp only [ah,vcS,↓an,↓ak,simprocAttr]
 exact ⟨by have:=k.1;simp at this;omega,h _ ((aA.app T _ []).new k (by simp))⟩
theorem Yz:fG PG.P 46=true:=by kernel_rfl
def Wi (L:List Ce):Int:=match L.findIdx? (fun c=>!ceB c) with
 | some i=>i
 | none=>-1
theorem We {T:aj}{sz:Nat}{k:SK}{L:List Ce}{K:DV→aj→Prop}(hs:sz=3∨L=[])(hl:L.length≤1000000)(hc:∀c∈L,vf c)(h:∀T',aA T T' []→K (.int .i64 (Wi L)) T') :
  aq PG 81 [.sl sz (av L) k,.lit (.func (.func 46) #[] #[])] T K:=by
 refine aq.aE FOk.nil Hv (by simp [wU]) ?_
 unfold wU
 dsimp only
 simp -implicitDefEqProofs -dsimp only [ah,aH,vcS,↓an,↓ak,simprocAttr]
 refine bp.inv FOk.nil (S:=fun σ:Nat × aj=>⟨[(0,.sl sz (av L) k),(1,.lit (.func (.func 46) #[] #[])),(7,.int .i64 L.length),(8,.int .i64 σ.1)],σ.2⟩)
  (I:=fun σ=>σ.1≤L.length∧aA T σ.2 []∧∀j,j<σ.1→ceB (L.getD j aN)=true) (μ:=fun σ=>L.length-σ.1) (0,T) ⟨by simp,aA.refl _ _,fun j hj=>absurd hj (by simp)⟩ ?_ ?_
 ·simp -implicitDefEqProofs -dsimp only [ax,vcS,↓an,↓ak,simprocAttr]
 ·intro ⟨i,A⟩ ⟨h1,h2,h3⟩
  dsimp only at h1 h2 h3 ⊢
  unfold uz
  have w1:IntKind.i64.wrap ((i:Int)+1)=((i+1:Nat):Int):=by rw [aP (by omega) (by omega)];omega
  rcases Nat.lt_or_ge i L.length with hlt | hge
  ·have hii:(i:Int)<L.length:=by omega
   have i0:(0:Int)≤i:=by omega
   have hsz:sz=3:=by rcases hs with h | h;exact h;subst h;simp at hlt
   subst hsz
   have hg:=bw hlt
   have hci:=hc (L.getD i aN) (by simp [List.getD_eq_getElem?_getD,hlt])
   simp -implicitDefEqProofs -dsimp only [ah,hii,i0,hg,aH,Nat.zero_add,Yz,↓fQ,tE,vcS,↓an,↓ak,simprocAttr]
   refine Uj (c:=L.getD i aN) hci fun T' k=>?_
   cases hb:ceB (L.getD i aN) with
   | true=>
    simp -implicitDefEqProofs -dsimp only [ah,w1,ax,vcS,↓an,↓ak,simprocAttr]
    refine ⟨(i+1,T'),⟨rfl,aJ _⟩,⟨hlt,h2.new k (by simp),fun j hj=>?_⟩,by dsimp only;omega⟩
    rcases Nat.lt_or_ge j i with hji | hji
    ·exact h3 j hji
    ·obtain rfl:j=i:=by dsimp only at hj;omega
     exact hb
   | false=>
    simp -implicitDefEqProofs -dsimp only [ah,w1,ax,vcS,↓an,↓ak,simprocAttr]
    have e:L.findIdx? (fun c=>!ceB c)=some i:=by
     rw [List.findIdx?_eq_some_iff_getElem]
     refine ⟨hlt,by simpa [List.getD_eq_getElem?_getD,hlt] using hb,fun j hj=>?_⟩
     have h5:=h3 j hj
     rw [List.getD_eq_getElem?_getD,List.getElem?_eq_getElem (by omega)] at h5
     simpa using h5
    have kk:aA T T' []:=h2.new k (by simp)
    refine ⟨kk.1, ?_⟩
    have:=h T' kk
    unfold Wi at this
    rw [e] at this
    exact this
  ·have hii:¬(i:Int)<L.length:=by omega
   obtain rfl:i=L.length:=by omega
   simp -implicitDefEqProofs -dsimp only [ah,hii,ax,vcS,↓an,↓ak,simprocAttr]
   have e:L.findIdx? (fun c=>!ceB c)=none:=by
    rw [List.findIdx?_eq_none_iff]
    intro x hx
    obtain ⟨j,hj,rfl⟩:=List.getElem_of_mem hx
    have h5:=h3 j hj
    rw [List.getD_eq_getElem?_getD,List.getElem?_eq_getElem hj] at h5
    simpa using h5
   refine ⟨h2.1, ?_⟩
   have:=h A h2
   unfold Wi at this
   rw [e] at this
   exact this
theorem Wh (L:List Ce):decide (0≤Wi L)=!L.all ceB:=by
 unfold Wi
 cases h:L.findIdx? (fun c=>!ceB c) with
 | none=>
  rw [List.findIdx?_eq_none_iff] at h
  have:L.all ceB=true:=List.all_eq_true.2 fun x hx=>by simpa using h x hx
  rw [this];rfl
 | some i=>
  rw [List.findIdx?_eq_some_iff_getElem] at h
  obtain ⟨h1,h2,_⟩:=h
  have:L.all ceB=false:=by
   rw [List.all_eq_false]
   exact ⟨L[i],List.getElem_mem _,by simpa using h2⟩
  rw [this]
  simp
theorem LK {T:aj}{sz:Nat}{k:SK}{L:List Ce}{K:DV→aj→Prop}(hs:sz=3∨L=[])(hl:L.length≤1000000)(hc:∀c∈L,vf c)(h:∀T',aA T T' []→K (.bool (!L.all ceB)) T') :
  aq PG 45 [.sl sz (av L) k,.lit (.func (.func 46) #[] #[])] T K:=by
 refine aq.aE FOk.nil zm (by simp [ow]) ?_
 unfold ow
 dsimp only
 simp -implicitDefEqProofs -dsimp only [ah,vcS,↓an,↓ak,simprocAttr]
 refine We hs hl hc fun T' k=>?_
 simp -implicitDefEqProofs -dsimp only [ah,Wh,vcS,↓an,↓ak,simprocAttr]
 exact ⟨k.1,h _ k⟩
noncomputable def uA:RC:=(SR [BT 14 .lss 13 12] [0,1,12,13,14] (.seq (.cond (.t 14) .skip (.ext 0)) (.seq (.blk 1 (SR [MV 15 13,MV 5 15] [0,1,5,12,13] (.seq (.cK (.take (MV 16 0) [] (.take (MV 17 5) [] (.take (OP 18 (.aT 3 (.t 16) (.t 17))) [] (.take (LT 19 3 18) [] (.take (MV 20 1) [] (.take (MV 21 5) [] (.take (OP 22 (.aT 3 (.t 20) (.t 21))) [] (.take (LT 23 3 22) [] (.take (OP 24 (.eqS true [.i,.i,.i] (.t 19) (.t 23))) [] .done))))))))) 0 [0,1,12,13,24]) (.cond (.t 24) (SR [MB 4 false] [4] .ret) .skip)))) (.reg [BI 25 .add 13 1,MV 13 25] 0 [0,1,12,13]))))
noncomputable def wV:RFn:=⟨2,26,(SR [MB 4 false] [0,1] (.seq (SR [MV 6 0,OP 7 (.len (.t 6)),MV 8 1,OP 9 (.len (.t 8)),BT 10 .neq 7 9] [0,1,10] (.cond (.t 10) (SR [MB 4 false] [4] .ret) .skip)) (.seq (SR [MV 11 0,OP 12 (.len (.t 11)),OP 13 (.mov (.c (.int .i64 0)))] [0,1,12,13] (.blk 0 (.loop uA))) (SR [MB 4 true] [4] .ret)))),[.t 4]⟩
theorem Hw:aK PG.P [⟨0,0,[0,1],[]⟩,⟨1,0,[0,1,10],[]⟩,⟨2,0,[4],[]⟩,⟨3,0,[0,1,12,13],[]⟩,⟨4,0,[0,1,12,13,14],[]⟩,⟨5,0,[0,1,5,12,13],[]⟩,⟨6,0,[0,1,12,13,24],[]⟩,⟨7,0,[4],[]⟩,⟨8,0,[0,1,12,13],[]⟩,⟨9,0,[4],[]⟩] 49=some wV:=by kernel_rfl
noncomputable def ur:RC:=(SR [BT 23 .lss 22 21] [0,2,7,21,22,23] (.seq (.cond (.t 23) .skip (.ext 0)) (.seq (.blk 1 (SR [MV 24 22,MV 8 24] [0,2,7,8,21,22] (.reg [MV 25 7,MV 26 2,MV 27 8,OP 28 (.call 44 [.t 25,.t 26,.t 27]),OP 29 (.call 48 [.t 28])] 0 [0,2,7,21,22]))) (.reg [BI 30 .add 22 1,MV 22 30] 0 [0,2,7,21,22]))))
noncomputable def wD:RFn:=⟨3,34,(SR [MB 6 false] [0,1,2] (.seq (SR [MV 9 0,OP 10 (.len (.t 9)),MV 11 1,MV 12 2,BT 13 .mul 11 12,BT 14 .neq 10 13,MV 15 14,MG 16 0 15 false,OG 17 (.call 45 [.t 16,(.c (.lit (.func (.func 46) #[] #[])))]) 15 false,OP 18 (.pick (.t 15) (.c (.bool true)) (.t 17))] [0,1,2,18] (.cond (.t 18) (SR [MB 6 false] [6] .ret) .skip)) (SR [MV 19 0,OP 20 (.call 43 [.t 19]),MV 7 20] [0,1,2,7] (.seq (SR [MV 21 1,OP 22 (.mov (.c (.int .i64 0)))] [0,2,7,21,22] (.blk 0 (.loop ur))) (SR [MV 31 7,MV 32 0,OP 33 (.call 49 [.t 31,.t 32]),MV 6 33] [6] .ret))))),[.t 6]⟩
theorem GW:aK PG.P [⟨0,0,[0,1,2],[]⟩,⟨1,0,[0,1,2,18],[]⟩,⟨2,0,[6],[]⟩,⟨3,0,[0,1,2,7],[]⟩,⟨4,0,[0,2,7,21,22],[]⟩,⟨5,0,[0,2,7,21,22,23],[]⟩,⟨6,0,[0,2,7,8,21,22],[]⟩,⟨7,0,[0,2,7,21,22],[]⟩,⟨8,0,[0,2,7,21,22],[]⟩,⟨9,0,[6],[]⟩] 25=some wD:=by kernel_rfl
theorem Wf {T:aj}{q sz:Nat}{k:SK}{M L:List Ce}{K:DV→aj→Prop}(hq:T[q]?=some (some (.arr 3 (av M))))(hs:sz=3∨L=[])(hml:M.length=L.length)(hl:L.length≤1000000)(h:K (.bool (decide (M=L))) T) :
  aq PG 49 [.own q 0 M.length,.sl sz (av L) k] T K:=by
 have e0:((M.length:Nat):Int)=(L.length:Int):=by omega
 refine aq.aE FOk.nil Hw (by simp [wV]) ?_
 unfold wV
 dsimp only
 simp -implicitDefEqProofs -dsimp only [ah,aH,e0,vcS,↓an,↓ak,simprocAttr]
 refine bp.inv FOk.nil (S:=fun i:Nat=>⟨[(0,.own q 0 M.length),(1,.sl sz (av L) k),(12,.int .i64 L.length),(13,.int .i64 i)],T⟩)
  (I:=fun i=>i≤L.length∧∀j,j<i→M.getD j aN=L.getD j aN) (μ:=fun i=>L.length-i) 0 ⟨by simp,fun j hj=>absurd hj (by simp)⟩ ?_ ?_
 ·simp -implicitDefEqProofs -dsimp only [ax,vcS,↓an,↓ak,simprocAttr]
 ·intro i ⟨h1,h3⟩
  unfold uA
  have w1:IntKind.i64.wrap ((i:Int)+1)=((i+1:Nat):Int):=by rw [aP (by omega) (by omega)];omega
  rcases Nat.lt_or_ge i L.length with hlt | hge
  ·have hii:(i:Int)<L.length:=by omega
   have hij:(i:Int)<M.length:=by omega
   have i0:(0:Int)≤i:=by omega
   have hsz:sz=3:=by rcases hs with h | h;exact h;subst h;simp at hlt
   subst hsz
   have hg:=bw hlt
   have hgm:=bw (L:=M) (i:=i) (by omega)
   simp -implicitDefEqProofs -dsimp only [ah,ai hq,hii,hij,i0,hg,hgm,aH,Nat.zero_add,w1,ax,vcS,↓an,↓ak,simprocAttr]
   rcases Decidable.em (M.getD i aN=L.getD i aN) with e | e
   ·rw [e]
    simp only [decide_true,Bool.and_self,iN]
    refine ⟨i+1,rfl,⟨hlt,fun j hj=>?_⟩,by omega⟩
    rcases Nat.lt_or_ge j i with hji | hji
    ·exact h3 j hji
    ·obtain rfl:j=i:=by omega
     exact e
   ·have hne:(decide ((M.getD i aN).r=(L.getD i aN).r) && (decide ((M.getD i aN).a=(L.getD i aN).a) && decide ((M.getD i aN).h=(L.getD i aN).h)))=false:=by
     cases hb:(decide ((M.getD i aN).r=(L.getD i aN).r) && (decide ((M.getD i aN).a=(L.getD i aN).a) && decide ((M.getD i aN).h=(L.getD i aN).h))) with
     | false=>rfl
     | true=>
      simp only [Bool.and_eq_true,decide_eq_true_eq] at hb
      obtain ⟨a1,a2,a3⟩:=hb
      refine absurd ?_ e
      generalize M.getD i aN=x at *
      generalize L.getD i aN=y at *
      cases x;cases y
      simp_all
    rw [hne,gz]
    have hML:¬M=L:=fun hh=>e (by rw [hh])
    rw [decide_eq_false hML] at h
    exact h
  ·have hii:¬(i:Int)<L.length:=by omega
   obtain rfl:i=L.length:=by omega
   simp -implicitDefEqProofs -dsimp only [ah,hii,ax,vcS,↓an,↓ak,simprocAttr]
   have:M=L:=dH hml fun j hj=>h3 j (by omega)
   rw [decide_eq_true this] at h
   exact h
def Bl (L:List Ce)(aa:Nat):Nat→List Ce
 | 0=>L
 | y+1=>cS (Bl L aa y) aa y
def tC (L:List Ce)(rows aa:Nat):Bool:=decide (L.length=rows*aa) && (L.all ceB && decide (Bl L aa rows=L))
theorem J5 {L:List Ce}{rows aa:Nat}(g:bW L rows aa):∀y,y≤rows→bW (Bl L aa y) rows aa
 | 0,_=>g
 | y+1,h=>by
  have ih:=J5 g y (by omega)
  exact ih.eI (gw ih (by omega))
theorem kO (args:List DV):tab DC 45 args=none:=au _
theorem kP (args:List DV):tab DC 44 args=none:=au _
theorem kN (args:List DV):tab DC 48 args=none:=au _
theorem kM (args:List DV):tab DC 49 args=none:=au _
theorem Ui {T:aj}{sz:Nat}{k:SK}{L:List Ce}{rows aa:Nat}{K:DV→aj→Prop}(hs:sz=3∨L=[])(hl:L.length≤1000000)(hc:∀c∈L,vf c)(hr:1≤rows∧rows≤1000)(hcl:1≤aa∧aa≤1000)(h:∀T',aA T T' []→K (.bool (tC L rows aa)) T') :
  aq PG 25 [.sl sz (av L) k,.int .i64 rows,.int .i64 aa] T K:=by
 have hm:rows*aa≤1000*1000:=Nat.mul_le_mul hr.2 hcl.2
 have hp:(rows:Int)*aa=((rows*aa:Nat):Int):=by simp
 have hw:IntKind.i64.wrap ((rows:Int)*aa)=((rows*aa:Nat):Int):=by rw [hp];exact aP (by omega) (by omega)
 have cC:Bv sz (av L):=qU hs hl
 refine aq.aE zL GW (by simp [wD]) ?_
 unfold wD
 dsimp only
 rcases Decidable.em (L.length=rows*aa) with e | e
 ·have e':(L.length:Int)=((rows*aa:Nat):Int):=by omega
  simp -implicitDefEqProofs -dsimp only [ah,aH,hw,e',kO,kP,kN,kM,HV,mG,cC,vcS,↓an,↓ak,simprocAttr]
  refine LK hs hl hc fun T1 k1=>?_
  have g:bW L rows aa:=⟨hr,hcl,e⟩
  cases hb:L.all ceB with
  | false=>
   simp -implicitDefEqProofs -dsimp only [ah,kO,kP,kN,kM,HV,mG,cC,vcS,↓an,↓ak,simprocAttr]
   have:=h T1 k1
   unfold tC at this
   rw [hb,Bool.false_and,Bool.and_false] at this
   exact ⟨k1.1,this⟩
  | true=>
   simp -implicitDefEqProofs -dsimp only [ah,kO,kP,kN,kM,HV,mG,cC,aH,vcS,↓an,↓ak,simprocAttr]
   refine bp.inv zL (S:=fun σ:Nat × aj=>⟨[(0,.sl sz (av L) k),(2,.int .i64 aa),(7,.own T1.length 0 L.length),(21,.int .i64 rows),(22,.int .i64 σ.1)],σ.2⟩)
    (I:=fun σ=>σ.1≤rows∧aA T σ.2 []∧σ.2[T1.length]?=some (some (.arr 3 (av (Bl L aa σ.1))))) (μ:=fun σ=>rows-σ.1) (0,T1++ [some (.arr 3 (av L))]) ⟨by simp,k1.eD _,bq _ _ _⟩ ?_ ?_
   ·simp -implicitDefEqProofs -dsimp only [ax,vcS,↓an,↓ak,simprocAttr]
   ·intro ⟨y,A⟩ ⟨h1,h2,h3⟩
    dsimp only at h1 h2 h3 ⊢
    have gy:=J5 g y h1
    have ly:(Bl L aa y).length=L.length:=by rw [gy.len,g.len]
    unfold ur
    have w1:IntKind.i64.wrap ((y:Int)+1)=((y+1:Nat):Int):=by rw [aP (by omega) (by omega)];omega
    rcases Nat.lt_or_ge y rows with hlt | hge
    ·have hii:(y:Int)<rows:=by omega
     simp -implicitDefEqProofs -dsimp only [ah,ai h3,hii,kO,kP,kN,kM,w1,vcS,↓an,↓ak,simprocAttr]
     rw [←ly]
     refine xj h3 gy hlt ?_
     simp -implicitDefEqProofs -dsimp only [ah,ai h3,hii,kO,kP,kN,kM,w1,vcS,↓an,↓ak,simprocAttr]
     have hrow:=dc (aa:=aa) hlt
     have pU:=bB y aa
     refine qE h3 (by rw [ly,g.len];omega) (by rw [ly];exact hl) fun T3 c3 k3=>?_
     simp -implicitDefEqProofs -dsimp only [ah,hii,kO,kP,kN,kM,w1,ax,vcS,↓an,↓ak,simprocAttr]
     refine ⟨(y+1,T3),⟨rfl,aJ _⟩,⟨hlt,h2.new k3 (by simpa using k1.1), ?_⟩,by dsimp only;omega⟩
     rw [←pU] at c3
     exact c3
    ·have hii:¬(y:Int)<rows:=by omega
     obtain rfl:y=rows:=by omega
     simp -implicitDefEqProofs -dsimp only [ah,ai h3,hii,kO,kP,kN,kM,vcS,↓an,↓ak,simprocAttr]
     rw [←ly]
     refine Wf h3 hs ly hl ?_
     simp -implicitDefEqProofs -dsimp only [ah,vcS,↓an,↓ak,simprocAttr]
     have:=h A h2
     unfold tC at this
     rw [hb,decide_eq_true e,Bool.true_and,Bool.true_and] at this
     exact ⟨h2.1,this⟩
 ·have e':¬(L.length:Int)=((rows*aa:Nat):Int):=by omega
  simp -implicitDefEqProofs -dsimp only [ah,aH,hw,eq_false e',kO,kP,kN,kM,vcS,↓an,↓ak,simprocAttr]
  have:=h T (aA.refl _ _)
  unfold tC at this
  rw [decide_eq_false e,Bool.false_and] at this
  exact this
noncomputable def sV:RFn:=⟨2,24,(SR [MB 5 false] [0,1,2] (SR [MV 6 0,BI 7 .geq 6 0,MV 8 7,MG 9 0 8 true,FG 10 0 2 8 true,LG 11 10 8 true,OG 12 (.bin .lss (.t 9) (.t 11)) 8 true,OP 13 (.pick (.t 8) (.t 12) (.c (.bool false))),MV 14 13,MG 15 1 14 true,OG 16 (.bin .geq (.t 15) (.c (.int .i64 0))) 14 true,OP 17 (.pick (.t 14) (.t 16) (.c (.bool false))),MV 18 17,MG 19 1 18 true,FG 20 1 2 18 true,LG 21 20 18 true,OG 22 (.bin .lss (.t 19) (.t 21)) 18 true,OP 23 (.pick (.t 18) (.t 22) (.c (.bool false))),MV 5 23] [5] .ret)),[.t 5]⟩
theorem Dk:aK PG.P [⟨0,0,[0,1,2],[]⟩,⟨1,0,[5],[]⟩] 27=some sV:=by kernel_rfl
noncomputable def wB:RFn:=⟨1,139,(SR [OP 1 (.box 24 (.t 0)),MB 2 false] [1] (.seq (SR [LT 5 24 1,OP 6 (.call 24 [.t 5]),OP 7 (.un .not (.t 6)),MV 8 7,FG 9 2 1 8 false,LG 10 9 8 false,FG 11 0 1 8 false,LG 12 11 8 false,FG 13 1 1 8 false,LG 14 13 8 false,OG 15 (.call 25 [.t 10,.t 12,.t 14]) 8 false,OG 16 (.un .not (.t 15)) 8 false,OP 17 (.pick (.t 8) (.c (.bool true)) (.t 16)),MV 18 17,FG 19 9 1 18 false,LG 20 19 18 false,OG 21 (.len (.t 20)) 18 false,FG 22 1 1 18 false,LG 23 22 18 false,OG 24 (.bin .neq (.t 21) (.t 23)) 18 false,OP 25 (.pick (.t 18) (.c (.bool true)) (.t 24)),MV 26 25,FG 27 19 1 26 false,OG 28 (.load true 5 (.t 27)) 26 false,OG 29 (.call 26 [.t 28]) 26 false,OG 30 (.un .not (.t 29)) 26 false,OP 31 (.pick (.t 26) (.c (.bool true)) (.t 30))] [1,31] (.cond (.t 31) (SR [MB 2 false] [2] .ret) .skip)) (SR [OP 32 (.w7 27 [.t 1]),MV 3 32] [1,3] (.seq (SR [MV 33 3,FA 34 3 1,LD 35 34,FA 36 4 1,LD 37 36,OP 38 (.iH (.t 33) [.t 35,.t 37]),OP 39 (.un .not (.t 38)),MV 40 39,MG 41 3 40 false,FG 42 10 1 40 false,LG 43 42 40 false,FG 44 11 1 40 false,LG 45 44 40 false,OG 46 (.iH (.t 41) [.t 43,.t 45]) 40 false,OG 47 (.un .not (.t 46)) 40 false,OP 48 (.pick (.t 40) (.c (.bool true)) (.t 47)),MV 49 48,MG 50 3 49 false,FG 51 17 1 49 false,LG 52 51 49 false,FG 53 18 1 49 false,LG 54 53 49 false,OG 55 (.iH (.t 50) [.t 52,.t 54]) 49 false,OG 56 (.un .not (.t 55)) 49 false,OP 57 (.pick (.t 49) (.c (.bool true)) (.t 56)),MV 58 57,FG 59 5 1 58 false,LG 60 59 58 false,MG 61 60 58 false,FG 62 4 1 61 true,LG 63 62 61 true,FG 64 1 1 61 true,LG 65 64 61 true,OG 66 (.bin .sub (.t 65) (.c (.int .i64 1))) 61 true,OG 67 (.bin .neq (.t 63) (.t 66)) 61 true,OG 68 (.pick (.t 61) (.t 67) (.c (.bool false))) 58 false,OP 69 (.pick (.t 58) (.c (.bool true)) (.t 68)),MV 70 69,FG 71 6 1 70 false,LG 72 71 70 false,OG 73 (.call 28 [.t 72]) 70 false,OG 74 (.un .not (.t 73)) 70 false,OP 75 (.pick (.t 70) (.c (.bool true)) (.t 74)),MV 76 75,FG 77 12 1 76 false,LG 78 77 76 false,OG 79 (.call 28 [.t 78]) 76 false,OG 80 (.un .not (.t 79)) 76 false,OP 81 (.pick (.t 76) (.c (.bool true)) (.t 80))] [1,81] (.cond (.t 81) (SR [MB 2 false] [2] .ret) .skip)) (SR [FA 82 0 1,LD 83 82,BI 84 .eql 83 1,MV 85 84,FG 86 7 1 85 true,LG 87 86 85 true,OG 88 (.bin .eql (.t 87) (.c (.int .i64 0))) 85 true,OP 89 (.pick (.t 85) (.t 88) (.c (.bool false))),MV 90 89,FG 91 8 1 90 true,LG 92 91 90 true,OG 93 (.bin .eql (.t 92) (.c (.int .i64 0))) 90 true,OP 94 (.pick (.t 90) (.t 93) (.c (.bool false))),MV 4 94] [1,4] (.seq (SR [MV 95 4,OP 96 (.un .not (.t 95)),MV 97 96,FG 98 7 1 97 true,LG 99 98 97 true,OG 100 (.bin .lss (.t 99) (.c (.int .i64 0))) 97 true,MG 101 100 97 true,FG 102 7 1 101 false,LG 103 102 101 false,FG 104 8 1 101 false,LG 105 104 101 false,OG 106 (.bin .geq (.t 103) (.t 105)) 101 false,OG 107 (.pick (.t 101) (.c (.bool true)) (.t 106)) 97 true,MG 108 107 97 true,FG 109 8 1 108 false,LG 110 109 108 false,FG 111 0 1 108 false,LG 112 111 108 false,OG 113 (.bin .geq (.t 110) (.t 112)) 108 false,OG 114 (.pick (.t 108) (.c (.bool true)) (.t 113)) 97 true,OP 115 (.pick (.t 97) (.t 114) (.c (.bool false)))] [1,115] (.cond (.t 115) (SR [MB 2 false] [2] .ret) .skip)) (.seq (SR [FA 116 15 1,LD 117 116] [1,117] (.cond (.t 117) (SR [FA 118 16 1,LD 119 118,FA 120 0 1,LD 121 120,FA 122 1 1,LD 123 122,OP 124 (.call 25 [.t 119,.t 121,.t 123]),MV 2 124] [2] .ret) .skip)) (SR [FA 125 16 1,LD 126 125,OP 127 (.len (.t 126)),BI 128 .eql 127 0,MV 129 128,FG 130 17 1 129 true,LG 131 130 129 true,OG 132 (.bin .eql (.t 131) (.c (.int .i64 0))) 129 true,OP 133 (.pick (.t 129) (.t 132) (.c (.bool false))),MV 134 133,FG 135 18 1 134 true,LG 136 135 134 true,OG 137 (.bin .eql (.t 136) (.c (.int .i64 0))) 134 true,OP 138 (.pick (.t 134) (.t 137) (.c (.bool false))),MV 2 138] [2] .ret)))))))),[.t 2]⟩
theorem GS:aK PG.P [⟨0,0,[1],[]⟩,⟨1,0,[1,31],[]⟩,⟨2,0,[2],[]⟩,⟨3,0,[1,3],[]⟩,⟨4,0,[1,81],[]⟩,⟨5,0,[2],[]⟩,⟨6,0,[1,4],[]⟩,⟨7,0,[1,115],[]⟩,⟨8,0,[2],[]⟩,⟨9,0,[1,117],[]⟩,⟨10,0,[2],[]⟩,⟨11,0,[2],[]⟩] 10=some wB:=by kernel_rfl
noncomputable def GR:RFn:=⟨2,12,(SR [OP 2 (.box 24 (.t 0)),OP 4 (.mov (.c (.sl 0 [] .nil)))] [1,2] (SR [FA 5 2 2,LD 6 5,FA 7 1 2,LD 8 7,MV 9 1,OP 10 (.call 44 [.t 6,.t 8,.t 9]),OP 11 (.call 43 [.t 10]),MV 4 11] [4] .ret)),[.t 4]⟩
theorem Nb:aK PG.P [⟨0,0,[1,2],[]⟩,⟨1,0,[4],[]⟩] 23=some GR:=by kernel_rfl
theorem O2 {T:aj}{a:Int}{K:DV→aj→Prop}(ha:0≤a∧a≤65535)(h:∀T',aA T T' []→K (.bool (atB a)) T'):aq PG 28 [.int .u16 a] T K:=by
 have e:ceB ⟨32,a,0⟩=atB a:=by
  unfold ceB
  rw [decide_eq_true (by dsimp only;omega),Bool.true_and]
 have er:Ce.row ⟨32,a,0⟩=[.int .i32 32,.int .u16 a,.int .u8 0]:=rfl
 refine aq.aE FOk.nil Jy (by simp [AL]) ?_
 unfold AL
 dsimp only
 simp -implicitDefEqProofs -dsimp only [ah,vcS,↓an,↓ak,simprocAttr]
 refine I9 (c:=⟨32,a,0⟩) ⟨by dsimp only;omega,ha,by dsimp only;omega⟩ fun T' k=>?_
 rw [e]
 simp -implicitDefEqProofs -dsimp only [ah,vcS,↓an,↓ak,simprocAttr]
 exact ⟨k.1,h _ k⟩
theorem TH {T:aj}{p:Pa}{m pr:Int}{d1 d2 d3:DV}{K:DV→aj→Prop}(pa:xE p m pr d1 d2 d3)(pk:dg p)(h:K (.bool (iz p)) T):aq PG 26 [.agg [.int .i64 m,.int .u8 pr,d1,d2,d3]] T K:=by
 obtain ⟨j1,j2,j3,j4,j5,j6,j7⟩:=pk
 have P:=(TG j1 j2 j3 ⟨j4,j5,j6⟩).wk (a:=[.agg [.int .i64 m,.int .u8 pr,d1,d2,d3]]) (by
  unfold paD
  rw [pa.m,pa.pr,←pa.e1,←pa.e2,←pa.e3]
  exact ⟨⟨rfl,rfl,iR (dU pa.i1) pa.i1,iR (dU pa.i2) pa.i2,iR (dU pa.i3) pa.i3,trivial⟩,trivial⟩)
 refine aq.pure P fun r os ⟨h1,h2⟩=>?_
 subst h1 h2
 rw [List.append_nil]
 exact h
theorem vX {T:aj}{b:Nat}{s:Sc}{z1 z2 z3:Nat}{k1 k2 k3:SK}{m pr:Int}{d1 d2 d3:DV}{y x:Nat}{K:DV→aj→Prop}(hb:T[b]?=some (some (.box (scD s z1 z2 z3 k1 k2 k3 m pr d1 d2 d3))))(hy:y<s.rows)(hx:x<s.aa)(h:K (.bool true) T) :
  aq PG 27 [.int .i64 y,.int .i64 x,.ptr b 0 0] T K:=by
 unfold scD at hb
 have a1:(0:Int)≤y:=by omega
 have a2:(y:Int)<s.rows:=by omega
 have a3:(0:Int)≤x:=by omega
 have a4:(x:Int)<s.aa:=by omega
 refine aq.aE FOk.nil Dk (by simp [sV]) ?_
 unfold sV
 dsimp only
 simp -implicitDefEqProofs -dsimp only [ah,ai hb,a1,a2,a3,a4,vcS,↓an,↓ak,simprocAttr]
 exact h
theorem uU:fG PG.P 27=true:=by kernel_rfl
structure ScR (s:Sc) (p:Pa):Prop where
 ci:∀c∈s.cells,vf c
 oi:∀c∈s.other,vf c
 cb:tC s.cells s.rows s.aa=true
 ob:s.alt=true→tC s.other s.rows s.aa=true
 ab:atB s.attr=true
 sb:atB s.fN=true
 pb:iz p=true
set_option maxHeartbeats 1000000 in
theorem MR {T:aj}{s:Sc}{p:Pa}{v:DV}{K:DV→aj→Prop}(ok:aR s)(pk:dg p)(hv:aG s p v)(R:ScR s p)(hwr:s.wrap=false)(hr1:¬s.rows=1)(halt:s.alt=false)(h:∀T',aA T T' []→K (.bool true) T'):aq PG 10 [v] T K:=by
 obtain ⟨z1,z2,z3,k1,k2,k3,m,pr,d1,d2,d3,sv,rfl⟩:=hv
 have o1:DV.one d1=true:=by obtain ⟨a,b,e,_⟩:=aL sv.pa.i1;rw [e];rfl
 have o2:DV.one d2=true:=by obtain ⟨a,b,e,_⟩:=aL sv.pa.i2;rw [e];rfl
 have o3:DV.one d3=true:=by obtain ⟨a,b,e,_⟩:=aL sv.pa.i3;rw [e];rfl
 have esc:scD s z1 z2 z3 k1 k2 k3 m pr d1 d2 d3=[.int .i64 s.rows,.int .i64 s.aa,.sl z1 (av s.cells) k1,.int .i64 s.y,.int .i64 s.x,.bool s.wrap,.int .u16 s.attr,.int .i64 s.top,.int .i64 s.bot,.sl z2 (bn s.aU) k2,.int .i64 s.sy,.int .i64 s.sx,.int .u16 s.fN,.bool s.auto,.bool s.shown,.bool s.alt,.sl z3 (av s.other) k3,.int .i64 s.oy,.int .i64 s.ox,.int .i64 m,.int .u8 pr,d1,d2,d3]:=rfl
 have hl:=ok.g.lim
 have e1:(s.aU.length:Int)=s.aa:=by rw [ok.aU]
 have hol:s.other.length≤1000000:=by
  cases ha:s.alt with
  | true=>exact (ok.alt ha).lim.1
  | false=>rw [(ok.non ha).1];simp
 have hrr:=ok.g.r
 have hcc:=ok.g.c
 have htb:=ok.tb
 have hbb:=ok.b
 have wx:IntKind.i64.wrap ((s.aa:Int)-1)=((s.aa-1:Nat):Int):=by rw [aP (by omega) (by omega)];omega
 have hlt:s.top<s.bot:=by rcases ok.rg with h | h;exact h;exact absurd h hr1
 have a1:¬(s.rows:Int)=1:=by omega
 have a2:¬(s.top:Int)<0:=by omega
 have a3:¬(s.bot:Int)≤s.top:=by omega
 have a4:¬(s.rows:Int)≤s.bot:=by omega
 obtain ⟨c1,c2,c3⟩:=ok.non halt
 have c1':(s.other.length:Int)=0:=by rw [c1];rfl
 have c2':(s.oy:Int)=0:=by omega
 have c3':(s.ox:Int)=0:=by omega
 refine aq.aE FOk.nil GS (by simp [wB]) ?_
 unfold wB
 dsimp only
 rw [esc]
 simp -implicitDefEqProofs -dsimp only [ah,o1,o2,o3,vcS,↓an,↓ak,simprocAttr]
 refine IW ok o1 o2 o3 fun T1 g1=>?_
 have hb1:=g1.at (bq T [] (some (Ob.box _))) (by simp)
 simp -implicitDefEqProofs -dsimp only [ah,ai hb1,o1,o2,o3,vcS,↓an,↓ak,simprocAttr]
 refine Ui (.inl sv.z1) hl.1 R.ci ok.g.r ok.g.c fun T2 g2=>?_
 have hb2:=g2.at hb1 (by simp)
 rw [R.cb]
 simp -implicitDefEqProofs -dsimp only [ah,ai hb2,o1,o2,o3,bC,eq_true e1,vcS,↓an,↓ak,simprocAttr]
 refine TH sv.pa pk ?_
 rw [R.pb]
 simp -implicitDefEqProofs -dsimp only [ah,ai hb2,o1,o2,o3,uU,↓fQ,fM,vcS,↓an,↓ak,simprocAttr]
 have sc2:T2[T.length]?=some (some (.box (scD s z1 z2 z3 k1 k2 k3 m pr d1 d2 d3))):=hb2
 refine vX sc2 ok.y ok.x ?_
 simp -implicitDefEqProofs -dsimp only [ah,ai hb2,o1,o2,o3,uU,↓fQ,fM,vcS,↓an,↓ak,simprocAttr]
 refine vX sc2 ok.sy ok.sx ?_
 simp -implicitDefEqProofs -dsimp only [ah,ai hb2,o1,o2,o3,uU,↓fQ,fM,vcS,↓an,↓ak,simprocAttr]
 refine vX sc2 ok.oy ok.ox ?_
 simp -implicitDefEqProofs -dsimp only [ah,ai hb2,o1,o2,o3,uU,↓fQ,fM,wx,hwr,halt,eq_false a1,eq_false a2,eq_false a3,eq_false a4,eq_true c1',eq_true c2',eq_true c3',vcS,↓an,↓ak,simprocAttr]
 refine O2 ok.at' fun T3 g3=>?_
 rw [R.ab]
 have hb3:=g3.at hb2 (by simp)
 simp -implicitDefEqProofs -dsimp only [ah,ai hb3,o1,o2,o3,wx,hwr,halt,eq_false a1,eq_false a2,eq_false a3,eq_false a4,eq_true c1',eq_true c2',eq_true c3',vcS,↓an,↓ak,simprocAttr]
 refine O2 ok.sat fun T4 g4=>?_
 rw [R.sb]
 have hb4:=g4.at hb3 (by simp)
 have kT:aA T T4 []:=((((aA.app T [_] []).new g1 (by simp)).new g2 (by simp)).new g3 (by simp)).new g4 (by simp)
 simp -implicitDefEqProofs -dsimp only [ah,ai hb4,o1,o2,o3,aH,wx,hwr,halt,eq_false a1,eq_false a2,eq_false a3,eq_false a4,eq_true c1',eq_true c2',eq_true c3',vcS,↓an,↓ak,simprocAttr]
 exact ⟨kT.1,h _ kT⟩
def AlC (L:List Ce):Prop:=∀c∈L,vf c∧ceB c=true
theorem NO:vf aN∧ceB aN=true:=⟨⟨by decide,by decide,by decide⟩,by decide⟩
theorem AlC.rep (n:Nat):AlC (List.replicate n aN):=fun c hc=>by rw [List.eq_of_mem_replicate hc];exact NO
theorem AlC.app {A B:List Ce}(a:AlC A)(b:AlC B):AlC (A++B):=fun c hc=>(List.mem_append.1 hc).elim (a c) (b c)
theorem AlC.take {A:List Ce}(a:AlC A)(n:Nat):AlC (A.take n):=fun c hc=>a c (List.mem_of_mem_take hc)
theorem AlC.drop {A:List Ce}(a:AlC A)(n:Nat):AlC (A.drop n):=fun c hc=>a c (List.mem_of_mem_drop hc)
theorem AlC.mid {A M:List Ce}(a:AlC A)(m:AlC M)(i j:Nat):AlC (ct A i j M):=((a.take i).app m).app (a.drop j)
theorem AlC.up {A:List Ce}(a:AlC A)(k:Nat):AlC (oa k A):=(a.drop k).app (.rep _)
theorem AlC.dn {A:List Ce}(a:AlC A)(k:Nat):AlC (oc k A):=(AlC.rep _).app (a.take _)
theorem AlC.getD {A:List Ce}(a:AlC A)(i:Nat):vf (A.getD i aN)∧ceB (A.getD i aN)=true:=by
 rcases Nat.lt_or_ge i A.length with h | h
 ·rw [List.getD_eq_getElem?_getD,List.getElem?_eq_getElem h];exact a _ (List.getElem_mem h)
 ·rw [SG h];exact NO
theorem AlC.Xg {A:List Ce}(a:AlC A):AlC (fe A):=fun c hc=>by
 simp only [fe,List.mem_map] at hc
 obtain ⟨i,_,rfl⟩:=hc
 unfold dF
 split
 ·exact NO
 ·exact a.getD i
theorem AlC.set {A:List Ce}(a:AlC A)(i:Nat){c:Ce}(h:vf c∧ceB c=true):AlC (A.set i c):=fun d hd=>by
 rcases List.mem_or_eq_of_mem_set hd with h1 | h1
 ·exact a d h1
 ·rw [h1];exact h
theorem AlC.row {A:List Ce}(a:AlC A)(c y:Nat):AlC (cM A c y):=(a.drop _).take _
theorem AlC.put {A R:List Ce}(a:AlC A)(r:AlC R)(c y:Nat):AlC (kD A c y R):=a.mid r _ _
theorem AlC.Vm {A:List Ce}(a:AlC A)(c y:Nat):AlC (cS A c y):=a.put (a.row c y).Xg c y
theorem AlC.upF {A:List Ce}(a:AlC A)(c t b:Nat)(n:Int):AlC (upF A c t b n):=a.mid (((a.drop _).take _).up _) _ _
theorem AlC.dnF {A:List Ce}(a:AlC A)(c t b:Nat)(n:Int):AlC (dnF A c t b n):=a.mid (((a.drop _).take _).dn _) _ _
theorem AlC.ins {A:List Ce}(a:AlC A)(c y x:Nat)(n:Int):AlC (Dv A c y x n):=a.put ((((a.row c y).take x).app (((a.row c y).drop x).dn _)).Xg) c y
theorem AlC.del {A:List Ce}(a:AlC A)(c y x:Nat)(n:Int):AlC (Dz A c y x n):=a.put ((((a.row c y).take x).app (((a.row c y).drop x).up _)).Xg) c y
theorem AlC.era {A:List Ce}(a:AlC A)(c y:Nat)(i j:Int):AlC (kJ A c y i j):=a.put (((a.row c y).mid (.rep _) _ _).Xg) c y
theorem AlC.gD {s:Sc}(a:AlC s.cells)(k:Int):∀n,AlC (gD s k n)
 | 0=>a
 | n+1=>by
  have ih:=AlC.gD a k n
  unfold Proofs.YtjmnbpilnneonaaGreatDoor.gD
  split
  ·exact ih.era _ _ _ _
  ·split
   ·exact ih.era _ _ _ _
   ·exact ih
theorem AlC.blank (r c:Nat):AlC (dL r c):=.rep _
structure ScC (s:Sc):Prop where
 c:AlC s.cells
 o:AlC s.other
 ab:atB s.attr=true
 sb:atB s.fN=true
theorem Vh (r c:Nat):ScC (newF r c):=⟨.blank r c,fun _ h=>(by cases h),(by decide:atB 0=true),(by decide:atB 0=true)⟩
theorem zH {s:Sc}(w:ScC s):ScC (cD s):=by
 unfold cD
 split
 ·exact ⟨w.c.upF _ _ _ _,w.o,w.ab,w.sb⟩
 ·split
  ·exact ⟨w.c,w.o,w.ab,w.sb⟩
  ·exact ⟨w.c,w.o,w.ab,w.sb⟩
theorem Xe {s:Sc}(w:ScC s):ScC (gl s):=by
 unfold gl
 split
 ·have:=zH w;exact ⟨this.c,this.o,this.ab,this.sb⟩
 ·exact w
theorem DM {r:Int}(h:dy r≠0):32≤r∧r≤1114111∧¬(55296≤r∧r<57344):=by
 unfold dy at h
 split at h
 ·exact absurd rfl h
 ·rename_i hh
  have h1:Bn r=true:=by cases e:Bn r with | true=>rfl | false=>exact absurd (.inl e) hh
  have h2:¬r<32:=fun e=>hh (.inr (.inl e))
  simp only [Bn,decide_eq_true_eq] at h1
  omega
theorem Zp {r a:Int}{n:Nat}(h:dy r≠0)(ha:atB a=true)(hn:n≤1):ceB ⟨r,a,n⟩=true:=by
 have:=DM h
 unfold ceB
 rw [Bool.and_eq_true]
 refine ⟨decide_eq_true ?_,ha⟩
 dsimp only
 omega
theorem acj {a:Int}(ha:atB a=true):ceB ⟨0,a,2⟩=true:=by
 unfold ceB
 rw [Bool.and_eq_true]
 exact ⟨decide_eq_true (by dsimp only;omega),ha⟩
theorem Ug {s:Sc}(ok:aR s)(w:ScC s){r:Int}{n:Nat}(h:dy r≠0):AlC (fy s r n):=by
 have:=DM h
 have ha:=ok.at'
 unfold fy
 split
 ·exact (w.c.set _ ⟨⟨⟨by dsimp only;omega,by dsimp only;omega⟩,ha,by dsimp only;omega⟩,Zp (n:=1) h w.ab (by omega)⟩).set _ ⟨⟨⟨by dsimp only;omega,by dsimp only;omega⟩,ha,by dsimp only;omega⟩,acj w.ab⟩
 ·exact w.c.set _ ⟨⟨⟨by dsimp only;omega,by dsimp only;omega⟩,ha,by dsimp only;omega⟩,Zp (n:=0) h w.ab (by omega)⟩
theorem UL {s:Sc}(ok:aR s)(w:ScC s){r:Int}{n:Nat}(h:dy r≠0):ScC (jP s r n):=by
 unfold jP
 split
 ·exact ⟨(Ug ok w h).Vm _ _,w.o,w.ab,w.sb⟩
 ·exact ⟨(Ug ok w h).Vm _ _,w.o,w.ab,w.sb⟩
theorem UO {s:Sc}(h:aR s)(w:ScC s)(r:Int):ScC (iU s r):=by
 have o:=o5 h
 have v:=Xe w
 have n:=gY o.1
 have m:=zH v
 unfold iU
 split
 ·exact w
 ·split
  ·split
   ·exact v
   ·exact UL (n.1.x0 n.2.2.2.2.1) ⟨m.c,m.o,m.ab,m.sb⟩ ‹_›
  ·exact UL o.1 v ‹_›
theorem aaH {s:Sc}(w:ScC s)(b:Int):ScC (xz s b):=by
 have n:=zH w
 unfold xz
 repeat' split
 all_goals first | exact w | exact n | exact ⟨w.c,w.o,w.ab,w.sb⟩
theorem aaD {s:Sc}(w:ScC s)(b:Int):ScC (jD s b):=by
 have n:=zH w
 unfold jD
 repeat' split
 all_goals first | exact w | exact n | exact Vh _ _ | exact ⟨n.c,n.o,n.ab,n.sb⟩ | exact ⟨w.c,w.o,w.ab,w.ab⟩ | exact ⟨w.c,w.o,w.sb,w.sb⟩ | exact ⟨w.c.dnF _ _ _ _,w.o,w.ab,w.sb⟩ | exact ⟨w.c,w.o,w.ab,w.sb⟩
theorem S2:((List.range 4096).all fun a=>!atB ((a:Nat):Int) || (decide (a % 16<8) && (decide (a / 16 % 16<9) && decide (a / 256<9))))=true:=by decide +kernel
theorem Wk:((List.range 8).all fun b=>(List.range 9).all fun f=>(List.range 9).all fun g=>(List.range 50).all fun k=>atB (bR ((b+f*16+g*256:Nat):Int) ((k:Nat):Int)))=true:=by decide +kernel
theorem Z7 {a k:Int}(h0:0≤a)(h:atB a=true):atB (bR a k)=true:=by
 rcases Decidable.em (0≤k∧k<50) with hk | hk
 ·have h1:a<4096:=by unfold atB at h;simp only [Bool.and_eq_true,decide_eq_true_eq] at h;omega
  have h2:=List.all_eq_true.1 S2 a.toNat (List.mem_range.2 (by omega))
  rw [show ((a.toNat:Nat):Int)=a by omega,h,Bool.not_true,Bool.false_or,Bool.and_eq_true,Bool.and_eq_true,decide_eq_true_eq,decide_eq_true_eq,decide_eq_true_eq] at h2
  have h3:=List.all_eq_true.1 (List.all_eq_true.1 (List.all_eq_true.1 (List.all_eq_true.1 Wk (a.toNat % 16) (List.mem_range.2 h2.1)) (a.toNat / 16 % 16) (List.mem_range.2 h2.2.1)) (a.toNat / 256) (List.mem_range.2 h2.2.2)) k.toNat (List.mem_range.2 (by omega))
  have e1:((a.toNat % 16+a.toNat / 16 % 16*16+a.toNat / 256*256:Nat):Int)=a:=by omega
  rw [e1,show ((k.toNat:Nat):Int)=k by omega] at h3
  exact h3
 ·unfold bR
  rw [if_neg (by omega),if_neg (by omega),if_neg (by omega),if_neg (by omega),if_neg (by omega),if_neg (by omega),if_neg (by omega),if_neg (by omega),if_neg (by omega),if_neg (by omega),if_neg (by omega)]
  exact h
theorem PS:∀{ps:List Int} {a:Int},(0≤a∧a≤65535)→atB a=true→atB (ps.foldl bR a)=true
 | [],a,_,h=>h
 | k::ps,a,ha,h=>PS (ps:=ps) (Kc ha) (Z7 ha.1 h)
theorem K5 {s:Sc}(w:ScC s)(row:Bool)(k:Int):ScC (fL s row k):=by
 unfold fL
 split
 ·cases row
  ·exact ⟨w.c.gD k s.rows,w.o,w.ab,w.sb⟩
  ·exact ⟨w.c.era _ _ _ _,w.o,w.ab,w.sb⟩
 ·exact ⟨w.c,w.o,w.ab,w.sb⟩
theorem aaJ {s:Sc}(h:aR s)(w:ScC s)(b:Int)(ps:List Int):ScC (eJ s b ps):=by
 have nw:ScC { s with wrap:=false}:=⟨w.c,w.o,w.ab,w.sb⟩
 unfold eJ
 dsimp only
 have c0:∀{c:Prop} [Decidable c] {x y:Sc},ScC x→ScC y→ScC (if c then x else y):=fun {c} _ {x y} h1 h2=>by
  split
  ·exact h1
  ·exact h2
 refine c0 ⟨w.c,w.o,w.ab,w.sb⟩ (c0 ⟨w.c,w.o,w.ab,w.sb⟩ (c0 ⟨w.c,w.o,w.ab,w.sb⟩ (c0 ⟨w.c,w.o,w.ab,w.sb⟩ (c0 ⟨w.c,w.o,w.ab,w.sb⟩ (c0 ⟨w.c,w.o,w.ab,w.sb⟩ (c0 ⟨w.c,w.o,w.ab,w.sb⟩ ?_))))))
 refine c0 (K5 w _ _) (c0 (K5 w _ _) ?_)
 refine c0 (c0 ⟨w.c.dnF _ _ _ _,w.o,w.ab,w.sb⟩ nw) (c0 (c0 ⟨w.c.upF _ _ _ _,w.o,w.ab,w.sb⟩ nw) ?_)
 refine c0 ⟨w.c.upF _ _ _ _,w.o,w.ab,w.sb⟩ (c0 ⟨w.c.dnF _ _ _ _,w.o,w.ab,w.sb⟩ ?_)
 refine c0 ⟨w.c.ins _ _ _ _,w.o,w.ab,w.sb⟩ (c0 ⟨w.c.del _ _ _ _,w.o,w.ab,w.sb⟩ (c0 ⟨w.c.era _ _ _ _,w.o,w.ab,w.sb⟩ ?_))
 refine c0 (c0 ⟨w.c,w.o,w.ab,w.sb⟩ w) (c0 (c0 ⟨w.c,w.o,w.ab,w.sb⟩ (c0 ⟨w.c,w.o,w.ab,w.sb⟩ w)) (c0 ⟨w.c,w.o, ?_,w.sb⟩ w))
 show atB (if ps=[] then 0 else ps.foldl bR s.attr)=true
 split
 ·decide
 ·exact PS h.at' w.ab
theorem Yn {on:Bool}{s:Sc}(w:ScC s)(k:Int):ScC (dZ on s k):=by
 unfold dZ
 split
 ·exact ⟨w.c,w.o,w.ab,w.sb⟩
 split
 ·exact ⟨w.c,w.o,w.ab,w.sb⟩
 split
 ·exact ⟨.blank _ _,w.c,w.ab,w.sb⟩
 split
 ·exact ⟨w.o,fun _ h=>(by cases h),w.ab,w.sb⟩
 ·exact w
theorem PM {on:Bool}:∀{ps:List Int} {s:Sc},ScC s→ScC (ps.foldl (dZ on) s)
 | [],s,w=>w
 | k::ps,s,w=>PM (ps:=ps) (Yn w k)
theorem acf {s:Sc}(h:aR s)(w:ScC s)(k r b pv:Int)(ps is:List Int):ScC (doF s k r b pv ps is):=by
 unfold doF
 split
 ·exact UO h w r
 split
 ·exact aaH w b
 split
 ·exact aaD w b
 split
 ·exact aaJ h w b ps
 split
 ·split
  ·exact PM w
  ·exact w
 ·exact w
theorem Ws:∀{l:List Ac} {s:Sc},aR s→ScC s→ScC (l.foldl tH s)
 | [],s,_,w=>w
 | a::l,s,h,w=>Ws (l:=l) (NB h _ _ _ _ _ _) (acf h w _ _ _ _ _ _)
structure ScF (x:Sc × Pa):Prop where
 ok:aR x.1
 pk:dg x.2
 w:ScW x.1
 c:ScC x.1
 rt:Rt x.2
theorem YK {x:Sc × Pa}{c:Int}(h:ScF x)(hc:0≤c∧c≤255):ScF (ef x c):=⟨vl h.ok,qH h.pk hc,Wr h.ok h.w,Ws h.ok h.c,TA h.rt hc⟩
theorem BP:∀{l:List Int} {x:Sc × Pa},ScF x→(∀c∈l,0≤c∧c≤255)→ScF (l.foldl ef x)
 | [],x,h,_=>h
 | c::l,x,h,hb=>BP (l:=l) (x:=ef x c) (YK h (hb c (by simp))) fun d hd=>hb d (by simp [hd])
theorem Vi {r c:Nat}(hr:1≤r∧r≤1000)(hc:1≤c∧c≤1000):ScF (newF r c,pa0 0):=⟨uJ hr hc,mb 0,Vg hr hc,Vh r c,Rt.pa0 (by decide)⟩
end Go.Proofs.YtjmnbpilnneonaaGreatDoor
