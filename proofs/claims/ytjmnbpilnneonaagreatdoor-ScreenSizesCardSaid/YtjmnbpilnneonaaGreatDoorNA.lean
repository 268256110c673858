/- Texts H17, H18, H19, C14 in one. -/
import Derived.Test.YtjmnbpilnneonaaGreatDoorN9
import Derived.Test.YtjmnbpilnneonaaGreatDoorM7
import Derived.Test.YtjmnbpilnneonaaGreatDoorM8
set_option linter.unusedVariables false
set_option linter.unusedSimpArgs false
set_option maxRecDepth 10000
namespace Go.Proofs.YtjmnbpilnneonaaGreatDoor
open Go.RowKit
noncomputable section
variable {s:Sc}{T:ay}{K:DV->ay->Prop}{A L:List Ce}{p:Pa}{v:DV}{a:Int}{sz rows aa:Nat}{k:SK}
def r8:RFn:=⟨1,58,(SR [OP 1 (.box 3 (.t 0)),MB 2 false] [1] (.seq (SR [FA 3 0 1,LD 4 3,OP 5 (.bin .lss (.t 4) (.c (.int .i32 0))),MV 6 5,FG 7 0 1 6 false,LG 8 7 6 false,OG 9 (.bin .gtr (.t 8) (.c (.int .i32 1114111))) 6 false,OP 10 (.pick (.t 6) (.c (.bool true)) (.t 9)),MV 11 10,FG 12 0 1 11 false,LG 13 12 11 false,OG 14 (.bin .geq (.t 13) (.c (.int .i32 55296))) 11 false,MG 15 14 11 false,FG 16 0 1 15 true,LG 17 16 15 true,OG 18 (.bin .lss (.t 17) (.c (.int .i32 57344))) 15 true,OG 19 (.pick (.t 15) (.t 18) (.c (.bool false))) 11 false,OP 20 (.pick (.t 11) (.c (.bool true)) (.t 19)),MV 21 20,FG 22 2 1 21 false,LG 23 22 21 false,OG 24 (.bin .gtr (.t 23) (.c (.int .u8 2))) 21 false,OP 25 (.pick (.t 21) (.c (.bool true)) (.t 24)),MV 26 25,FG 27 0 1 26 false,LG 28 27 26 false,OG 29 (.bin .eql (.t 28) (.c (.int .i32 0))) 26 false,FG 30 2 1 26 false,LG 31 30 26 false,OG 32 (.bin .eql (.t 31) (.c (.int .u8 2))) 26 false,OG 33 (.eqB true (.t 29) (.t 32)) 26 false,OP 34 (.pick (.t 26) (.c (.bool true)) (.t 33))] [1,34] (.cond (.t 34) (SR [MB 2 false] [2] .ret) .skip)) (SR [FA 35 1 1,LD 36 35,OP 37 (.bin .lss (.t 36) (.c (.int .u16 4096))),MV 38 37,FG 39 1 1 38 true,LG 40 39 38 true,OG 41 (.bin .and (.t 40) (.c (.int .u16 8))) 38 true,OG 42 (.bin .eql (.t 41) (.c (.int .u16 0))) 38 true,OP 43 (.pick (.t 38) (.t 42) (.c (.bool false))),MV 44 43,FG 45 1 1 44 true,LG 46 45 44 true,OG 47 (.bin .shr (.t 46) (.c (.int .u64 4))) 44 true,OG 48 (.bin .and (.t 47) (.c (.int .u16 15))) 44 true,OG 49 (.bin .leq (.t 48) (.c (.int .u16 8))) 44 true,OP 50 (.pick (.t 44) (.t 49) (.c (.bool false))),MV 51 50,FG 52 1 1 51 true,LG 53 52 51 true,OG 54 (.bin .shr (.t 53) (.c (.int .u64 8))) 51 true,OG 55 (.bin .and (.t 54) (.c (.int .u16 15))) 51 true,OG 56 (.bin .leq (.t 55) (.c (.int .u16 8))) 51 true,OP 57 (.pick (.t 51) (.t 56) (.c (.bool false))),MV 2 57] [2] .ret))),[.t 2]⟩
theorem Ey:aK PG.P (aA PG.P 47 r8) 47=some r8:=by kernel_rfl
def r6:RFn:=⟨1,6,(SR [OP 1 (.box 3 (.t 0)),MB 2 false] [1] (SR [LT 3 3 1,OP 4 (.call 47 [.t 3]),OP 5 (.un .not (.t 4)),MV 2 5] [2] .ret)),[.t 2]⟩
theorem Ev:aK PG.P (aA PG.P 46 r6) 46=some r6:=by kernel_rfl
def vu:RC:=(SR [BT 9 .lss 8 7] [0,1,7,8,9] (.seq (.cond (.t 9) .skip (.ext 0)) (.seq (.blk 1 (SR [MV 10 8,MV 5 10] [0,1,5,7,8] (SR [MV 11 1,MV 12 0,MV 13 5,OP 14 (.aT 3 (.t 12) (.t 13)),LT 15 3 14,OP 16 (.iP (.t 11) [.t 15])] [0,1,5,7,8,16] (.cond (.t 16) (SR [MV 17 5,MV 4 17] [4] .ret) .skip)))) (.reg [BI 18 .add 8 1,MV 8 18] 0 [0,1,7,8]))))
def sD:RFn:=⟨2,19,(SR [OP 4 (.mov (.c (.int .i64 0)))] [0,1] (.seq (SR [MV 6 0,OP 7 (.len (.t 6)),OP 8 (.mov (.c (.int .i64 0)))] [0,1,7,8] (.blk 0 (.loop vu))) (SR [OP 4 (.mov (.c (.int .i64 (-1))))] [4] .ret))),[.t 4]⟩
theorem EK:aK PG.P (aA PG.P 81 sD) 81=some sD:=by kernel_rfl
def lV:RFn:=⟨2,9,(SR [MB 4 false] [0,1] (SR [MV 5 0,MV 6 1,OP 7 (.call 81 [.t 5,.t 6]),BI 8 .geq 7 0,MV 4 8] [4] .ret)),[.t 4]⟩
theorem yH:aK PG.P (aA PG.P 45 lV) 45=some lV:=by kernel_rfl
def qg (c:Ce):Prop:=(-2147483648<=c.r/\c.r<=2147483647)/\(0<=c.a/\c.a<=65535)/\(0<=c.h/\c.h<=255)
def atB (a:Int):Bool:=decide (a<4096) && decide (a.toNat &&& 8=0) && decide ((a.toNat / 16) &&& 15<=8) && decide ((a.toNat / 256) &&& 15<=8)
def ceB (c:Ce):Bool:=decide (0<=c.r/\c.r<=1114111/\¬(55296<=c.r/\c.r<57344)/\c.h<=2/\(c.r=0↔c.h=2)) && atB c.a
theorem DL (m:Nat)(hm:m<=65535)(ha:0<=a/\a<=65535):IntKind.u16.wrap ((BitVec.ofInt IntKind.u16.bits a &&& BitVec.ofInt IntKind.u16.bits (m:Int)).toNat:Nat)=((a.toNat &&& m:Nat):Int):=by
 have h1:a.toNat &&& m<=a.toNat:=Nat.and_le_left
 rw[BitVec.toNat_and,ofInt16 ha,ofInt16 (a:=(m:Int)) (by omega),Int.toNat_natCast]
 exact By (by omega) (by omega)
theorem Gm {c:Ce}(hc:qg c)(h:∀T',ax T T' []->K (.bool (ceB c)) T'):aj PG 47 [.agg c.row] T K:=by
 obtain ⟨r,a,hh⟩:=c
 obtain ⟨h1,h2,h3⟩:=hc
 dsimp only at h1 h2 h3
 have s4:a.fdiv (2 ^ min 4 IntKind.u16.bits)=((a.toNat / 16:Nat):Int):=by
  rw[show min 4 IntKind.u16.bits=4 from rfl,Int.fdiv_eq_ediv_of_nonneg _ (by decide)]
  omega
 have s8:a.fdiv (2 ^ min 8 IntKind.u16.bits)=((a.toNat / 256:Nat):Int):=by
  rw[show min 8 IntKind.u16.bits=8 from rfl,Int.fdiv_eq_ediv_of_nonneg _ (by decide)]
  omega
 have a8:IntKind.u16.wrap ((BitVec.ofInt IntKind.u16.bits a &&& BitVec.ofInt IntKind.u16.bits 8).toNat:Nat)=((a.toNat &&& 8:Nat):Int):=DL 8 (by decide) h2
 have a4:IntKind.u16.wrap ((BitVec.ofInt IntKind.u16.bits ((a.toNat / 16:Nat):Int) &&& BitVec.ofInt IntKind.u16.bits 15).toNat:Nat)=(((a.toNat / 16) &&& 15:Nat):Int):=DL (a:=((a.toNat / 16:Nat):Int)) 15 (by decide) (by omega)
 have a9:IntKind.u16.wrap ((BitVec.ofInt IntKind.u16.bits ((a.toNat / 256:Nat):Int) &&& BitVec.ofInt IntKind.u16.bits 15).toNat:Nat)=(((a.toNat / 256) &&& 15:Nat):Int):=DL (a:=((a.toNat / 256:Nat):Int)) 15 (by decide) (by omega)
 unfold Ce.row
 refine aj.aE FOk.nil Ey (by simp[r8]) ?_
 unfold r8
 dsimp only
 simp -implicitDefEqProofs -dsimp only[ah,show (4:Int).toNat=4 from rfl,show (8:Int).toNat=8 from rfl,s4,s8,a8,a4,a9,vcS,↓vcQ,simprocAttr]
 generalize hX:T++ [some (Ob.box [.int .i32 r,.int .u16 a,.int .u8 hh])]=X
 have kT:∀b,b=ceB ⟨r,a,hh⟩->K (.bool b) X:=fun b e=>by rw[e,<-hX];exact h _ (ax.app _ _ _)
 clear h s4 s8 a8 a4 a9
 have e1:(decide (r=0)=decide (hh=2))↔(r=0↔hh=2):=by rw[decide_eq_decide]
 simp only[e1]
 repeat' (first | intro _ | apply And.intro)
 all_goals
  refine kT _ ?_
  unfold ceB atB
  dsimp only
  first
   | (symm;rw[Bool.and_eq_false_iff];left;rw[decide_eq_false_iff_not];omega)
   | (rw[decide_eq_true (by omega),Bool.true_and];simp[*];done)
   | (rw[decide_eq_true (by omega),Bool.true_and];simp[*];omega)
   | (rw[Bool.eq_iff_iff];simp only[Bool.and_eq_true,decide_eq_true_eq];omega)
theorem Rl {c:Ce}(hc:qg c)(h:∀T',ax T T' []->K (.bool (!ceB c)) T'):aj PG 46 [.agg c.row] T K:=by
 have er:c.row=[.int .i32 c.r,.int .u16 c.a,.int .u8 c.h]:=rfl
 refine aj.aE FOk.nil Ev (by simp[r6]) ?_
 unfold r6
 dsimp only
 rw[er]
 simp -implicitDefEqProofs -dsimp only[ah,vcS,↓vcQ,simprocAttr]
 refine Gm hc fun T' k=>?_
 simp -implicitDefEqProofs -dsimp only[ah,vcS,↓vcQ,simprocAttr]
 exact ⟨by have:=k.1;simp at this;omega,h _ ((ax.app T _ []).new k (by simp))⟩
theorem YW:fR PG.P 46=true:=by kernel_rfl
def Vf (L:List Ce):Int:=match L.findIdx? (fun c=>!ceB c) with
 | some i=>i
 | none=>-1
theorem UL (hs:sz=3\/L=[])(hl:L.length<=1000000)(hc:∀c∈L,qg c)(h:∀T',ax T T' []->K (.int .i64 (Vf L)) T') :
  aj PG 81 [.sl sz (aq L) k,.lit (.func (.func 46) #[] #[])] T K:=by
 refine aj.aE FOk.nil EK (by simp[sD]) ?_
 unfold sD
 dsimp only
 simp -implicitDefEqProofs -dsimp only[ah,az,vcS,↓vcQ,simprocAttr]
 refine bk.inv FOk.nil (S:=fun σ:Nat × ay=>⟨[(0,.sl sz (aq L) k),(1,.lit (.func (.func 46) #[] #[])),(7,.int .i64 L.length),(8,.int .i64 σ.1)],σ.2⟩)
  (I:=fun σ=>σ.1<=L.length/\ax T σ.2 []/\∀j,j<σ.1->ceB (L.getD j aM)=true) (μ:=fun σ=>L.length-σ.1) (0,T) ⟨by simp,ax.refl _ _,fun j hj=>absurd hj (by simp)⟩ ?_ ?_
 ·simp -implicitDefEqProofs -dsimp only[an,vcS,↓vcQ,simprocAttr]
 ·intro ⟨i,A⟩ ⟨h1,h2,h3⟩
  dsimp only at h1 h2 h3 ⊢
  unfold vu
  have w1:IntKind.i64.wrap ((i:Int)+1)=((i+1:Nat):Int):=by rw[aO (by omega) (by omega)];omega
  rcases Nat.lt_or_ge i L.length with hlt | hge
  ·have hii:(i:Int)<L.length:=by omega
   have i0:(0:Int)<=i:=by omega
   have hsz:sz=3:=by rcases hs with h | h;exact h;subst h;simp at hlt
   subst hsz
   have hg:=bf hlt
   have hci:=hc (L.getD i aM) (by simp[List.getD_eq_getElem?_getD,hlt])
   simp -implicitDefEqProofs -dsimp only[ah,hii,i0,hg,az,Nat.zero_add,YW,↓bh,ud,vcS,↓vcQ,simprocAttr]
   refine Rl (c:=L.getD i aM) hci fun T' k=>?_
   cases hb:ceB (L.getD i aM) with
   | true=>
    simp -implicitDefEqProofs -dsimp only[ah,w1,an,vcS,↓vcQ,simprocAttr]
    refine ⟨(i+1,T'),⟨rfl,aH _⟩,⟨hlt,h2.new k (by simp),fun j hj=>?_⟩,by dsimp only;omega⟩
    rcases Nat.lt_or_ge j i with hji | hji
    ·exact h3 j hji
    ·obtain rfl:j=i:=by dsimp only at hj;omega
     exact hb
   | false=>
    simp -implicitDefEqProofs -dsimp only[ah,w1,an,vcS,↓vcQ,simprocAttr]
    have e:L.findIdx? (fun c=>!ceB c)=some i:=by
     rw[List.findIdx?_eq_some_iff_getElem]
     refine ⟨hlt,by simpa [List.getD_eq_getElem?_getD,hlt] using hb,fun j hj=>?_⟩
     have h5:=h3 j hj
     rw[List.getD_eq_getElem?_getD,List.getElem?_eq_getElem (by omega)] at h5
     simpa using h5
    have kk:ax T T' []:=h2.new k (by simp)
    refine ⟨kk.1, ?_⟩
    have:=h T' kk
    unfold Vf at this
    rw[e] at this
    exact this
  ·have hii:¬(i:Int)<L.length:=by omega
   obtain rfl:i=L.length:=by omega
   simp -implicitDefEqProofs -dsimp only[ah,hii,an,vcS,↓vcQ,simprocAttr]
   have e:L.findIdx? (fun c=>!ceB c)=none:=by
    rw[List.findIdx?_eq_none_iff]
    intro x hx
    obtain ⟨j,hj,rfl⟩:=List.getElem_of_mem hx
    have h5:=h3 j hj
    rw[List.getD_eq_getElem?_getD,List.getElem?_eq_getElem hj] at h5
    simpa using h5
   refine ⟨h2.1, ?_⟩
   have:=h A h2
   unfold Vf at this
   rw[e] at this
   exact this
theorem Ve (L:List Ce):decide (0<=Vf L)=!L.all ceB:=by
 unfold Vf
 cases h:L.findIdx? (fun c=>!ceB c) with
 | none=>
  rw[List.findIdx?_eq_none_iff] at h
  have:L.all ceB=true:=List.all_eq_true.2 fun x hx=>by simpa using h x hx
  rw[this];rfl
 | some i=>
  rw[List.findIdx?_eq_some_iff_getElem] at h
  obtain ⟨h1,h2,_⟩:=h
  have:L.all ceB=false:=by
   rw[List.all_eq_false]
   exact ⟨L[i],List.getElem_mem _,by simpa using h2⟩
  rw[this]
  simp
theorem Ig (hs:sz=3\/L=[])(hl:L.length<=1000000)(hc:∀c∈L,qg c)(h:∀T',ax T T' []->K (.bool (!L.all ceB)) T') :
  aj PG 45 [.sl sz (aq L) k,.lit (.func (.func 46) #[] #[])] T K:=by
 refine aj.aE FOk.nil yH (by simp[lV]) ?_
 unfold lV
 dsimp only
 simp -implicitDefEqProofs -dsimp only[ah,vcS,↓vcQ,simprocAttr]
 refine UL hs hl hc fun T' k=>?_
 simp -implicitDefEqProofs -dsimp only[ah,Ve,vcS,↓vcQ,simprocAttr]
 exact ⟨k.1,h _ k⟩
def vv:RC:=(SR [BT 14 .lss 13 12] [0,1,12,13,14] (.seq (.cond (.t 14) .skip (.ext 0)) (.seq (.blk 1 (SR [MV 15 13,MV 5 15] [0,1,5,12,13] (.seq (.cJ (.take (MV 16 0) [] (.take (MV 17 5) [] (.take (OP 18 (.aT 3 (.t 16) (.t 17))) [] (.take (LT 19 3 18) [] (.take (MV 20 1) [] (.take (MV 21 5) [] (.take (OP 22 (.aT 3 (.t 20) (.t 21))) [] (.take (LT 23 3 22) [] (.take (OP 24 (.eqS true [.i,.i,.i] (.t 19) (.t 23))) [] .done))))))))) 0 [0,1,12,13,24]) (.cond (.t 24) (SR [MB 4 false] [4] .ret) .skip)))) (.reg [BI 25 .add 13 1,MV 13 25] 0 [0,1,12,13]))))
def sE:RFn:=⟨2,26,(SR [MB 4 false] [0,1] (.seq (SR [MV 6 0,OP 7 (.len (.t 6)),MV 8 1,OP 9 (.len (.t 8)),BT 10 .neq 7 9] [0,1,10] (.cond (.t 10) (SR [MB 4 false] [4] .ret) .skip)) (.seq (SR [MV 11 0,OP 12 (.len (.t 11)),OP 13 (.mov (.c (.int .i64 0)))] [0,1,12,13] (.blk 0 (.loop vv))) (SR [MB 4 true] [4] .ret)))),[.t 4]⟩
theorem EL:aK PG.P (aA PG.P 49 sE) 49=some sE:=by kernel_rfl
def vf:RC:=(SR [BT 23 .lss 22 21] [0,2,7,21,22,23] (.seq (.cond (.t 23) .skip (.ext 0)) (.seq (.blk 1 (SR [MV 24 22,MV 8 24] [0,2,7,8,21,22] (.reg [MV 25 7,MV 26 2,MV 27 8,OP 28 (.call 44 [.t 25,.t 26,.t 27]),OP 29 (.call 48 [.t 28])] 0 [0,2,7,21,22]))) (.reg [BI 30 .add 22 1,MV 22 30] 0 [0,2,7,21,22]))))
def r5:RFn:=⟨3,34,(SR [MB 6 false] [0,1,2] (.seq (SR [MV 9 0,OP 10 (.len (.t 9)),MV 11 1,MV 12 2,BT 13 .mul 11 12,BT 14 .neq 10 13,MV 15 14,MG 16 0 15 false,OG 17 (.call 45 [.t 16,(.c (.lit (.func (.func 46) #[] #[])))]) 15 false,OP 18 (.pick (.t 15) (.c (.bool true)) (.t 17))] [0,1,2,18] (.cond (.t 18) (SR [MB 6 false] [6] .ret) .skip)) (SR [MV 19 0,OP 20 (.call 43 [.t 19]),MV 7 20] [0,1,2,7] (.seq (SR [MV 21 1,OP 22 (.mov (.c (.int .i64 0)))] [0,2,7,21,22] (.blk 0 (.loop vf))) (SR [MV 31 7,MV 32 0,OP 33 (.call 49 [.t 31,.t 32]),MV 6 33] [6] .ret))))),[.t 6]⟩
theorem Eu:aK PG.P (aA PG.P 25 r5) 25=some r5:=by kernel_rfl
theorem UM {q:Nat}{M:List Ce}(hq:T[q]?=some (some (.arr 3 (aq M))))(hs:sz=3\/L=[])(hml:M.length=L.length)(hl:L.length<=1000000)(h:K (.bool (decide (M=L))) T) :
  aj PG 49 [.own q 0 M.length,.sl sz (aq L) k] T K:=by
 have e0:((M.length:Nat):Int)=(L.length:Int):=by omega
 refine aj.aE FOk.nil EL (by simp[sE]) ?_
 unfold sE
 dsimp only
 simp -implicitDefEqProofs -dsimp only[ah,az,e0,vcS,↓vcQ,simprocAttr]
 refine bk.inv FOk.nil (S:=fun i:Nat=>⟨[(0,.own q 0 M.length),(1,.sl sz (aq L) k),(12,.int .i64 L.length),(13,.int .i64 i)],T⟩)
  (I:=fun i=>i<=L.length/\∀j,j<i->M.getD j aM=L.getD j aM) (μ:=fun i=>L.length-i) 0 ⟨by simp,fun j hj=>absurd hj (by simp)⟩ ?_ ?_
 ·simp -implicitDefEqProofs -dsimp only[an,vcS,↓vcQ,simprocAttr]
 ·intro i ⟨h1,h3⟩
  unfold vv
  have w1:IntKind.i64.wrap ((i:Int)+1)=((i+1:Nat):Int):=by rw[aO (by omega) (by omega)];omega
  rcases Nat.lt_or_ge i L.length with hlt | hge
  ·have hii:(i:Int)<L.length:=by omega
   have hij:(i:Int)<M.length:=by omega
   have i0:(0:Int)<=i:=by omega
   have hsz:sz=3:=by rcases hs with h | h;exact h;subst h;simp at hlt
   subst hsz
   have hg:=bf hlt
   have hgm:=bf (L:=M) (i:=i) (by omega)
   simp -implicitDefEqProofs -dsimp only[ah,ai hq,hii,hij,i0,hg,hgm,az,Nat.zero_add,w1,an,vcS,↓vcQ,simprocAttr]
   rcases Decidable.em (M.getD i aM=L.getD i aM) with e | e
   ·rw[e]
    simp only[decide_true,Bool.and_self,iB]
    refine ⟨i+1,rfl,⟨hlt,fun j hj=>?_⟩,by omega⟩
    rcases Nat.lt_or_ge j i with hji | hji
    ·exact h3 j hji
    ·obtain rfl:j=i:=by omega
     exact e
   ·have hne:(decide ((M.getD i aM).r=(L.getD i aM).r) && (decide ((M.getD i aM).a=(L.getD i aM).a) && decide ((M.getD i aM).h=(L.getD i aM).h)))=false:=by
     cases hb:(decide ((M.getD i aM).r=(L.getD i aM).r) && (decide ((M.getD i aM).a=(L.getD i aM).a) && decide ((M.getD i aM).h=(L.getD i aM).h))) with
     | false=>rfl
     | true=>
      simp only[Bool.and_eq_true,decide_eq_true_eq] at hb
      obtain ⟨a1,a2,a3⟩:=hb
      refine absurd ?_ e
      generalize M.getD i aM=x at *
      generalize L.getD i aM=y at *
      cases x;cases y
      simp_all
    rw[hne,gm]
    have hML:¬M=L:=fun hh=>e (by rw[hh])
    rw[decide_eq_false hML] at h
    exact h
  ·have hii:¬(i:Int)<L.length:=by omega
   obtain rfl:i=L.length:=by omega
   simp -implicitDefEqProofs -dsimp only[ah,hii,an,vcS,↓vcQ,simprocAttr]
   have:M=L:=dM hml fun j hj=>h3 j (by omega)
   rw[decide_eq_true this] at h
   exact h
def tP (L:List Ce)(aa:Nat):Nat->List Ce
 | 0=>L
 | y+1=>cO (tP L aa y) aa y
def pO (L:List Ce)(rows aa:Nat):Bool:=decide (L.length=rows*aa) && (L.all ceB && decide (tP L aa rows=L))
theorem Hr {L:List Ce}{rows aa:Nat}(g:bU L rows aa):∀y,y<=rows->bU (tP L aa y) rows aa
 | 0,_=>g
 | y+1,h=>by
  have ih:=Hr g y (by omega)
  exact ih.ej (fH ih (by omega))
theorem k9 (args:List DV):tab Ca 45 args=none:=ak _
theorem ld (args:List DV):tab Ca 44 args=none:=ak _
theorem k8 (args:List DV):tab Ca 48 args=none:=ak _
theorem k7 (args:List DV):tab Ca 49 args=none:=ak _
theorem gF (hs:sz=3\/L=[])(hl:L.length<=1000000)(hc:∀c∈L,qg c)(hr:1<=rows/\rows<=1000)(hcl:1<=aa/\aa<=1000)(h:∀T',ax T T' []->K (.bool (pO L rows aa)) T') :
  aj PG 25 [.sl sz (aq L) k,.int .i64 rows,.int .i64 aa] T K:=by
 have hm:rows*aa<=1000*1000:=Nat.mul_le_mul hr.2 hcl.2
 have hp:(rows:Int)*aa=((rows*aa:Nat):Int):=by simp
 have hw:IntKind.i64.wrap ((rows:Int)*aa)=((rows*aa:Nat):Int):=by rw[hp];exact aO (by omega) (by omega)
 have cC:As sz (aq L):=sI hs hl
 refine aj.aE zp Eu (by simp[r5]) ?_
 unfold r5
 dsimp only
 rcases Decidable.em (L.length=rows*aa) with e | e
 ·have e':(L.length:Int)=((rows*aa:Nat):Int):=by omega
  simp -implicitDefEqProofs -dsimp only[ah,az,hw,e',k9,ld,k8,k7,Fh,mV,cC,vcS,↓vcQ,simprocAttr]
  refine Ig hs hl hc fun T1 k1=>?_
  have g:bU L rows aa:=⟨hr,hcl,e⟩
  cases hb:L.all ceB with
  | false=>
   simp -implicitDefEqProofs -dsimp only[ah,k9,ld,k8,k7,Fh,mV,cC,vcS,↓vcQ,simprocAttr]
   have:=h T1 k1
   unfold pO at this
   rw[hb,Bool.false_and,Bool.and_false] at this
   exact ⟨k1.1,this⟩
  | true=>
   simp -implicitDefEqProofs -dsimp only[ah,k9,ld,k8,k7,Fh,mV,cC,az,vcS,↓vcQ,simprocAttr]
   refine bk.inv zp (S:=fun σ:Nat × ay=>⟨[(0,.sl sz (aq L) k),(2,.int .i64 aa),(7,.own T1.length 0 L.length),(21,.int .i64 rows),(22,.int .i64 σ.1)],σ.2⟩)
    (I:=fun σ=>σ.1<=rows/\ax T σ.2 []/\σ.2[T1.length]?=some (some (.arr 3 (aq (tP L aa σ.1))))) (μ:=fun σ=>rows-σ.1) (0,T1++ [some (.arr 3 (aq L))]) ⟨by simp,k1.dU _,aZ _ _ _⟩ ?_ ?_
   ·simp -implicitDefEqProofs -dsimp only[an,vcS,↓vcQ,simprocAttr]
   ·intro ⟨y,A⟩ ⟨h1,h2,h3⟩
    dsimp only at h1 h2 h3 ⊢
    have gy:=Hr g y h1
    have ly:(tP L aa y).length=L.length:=by rw[gy.len,g.len]
    unfold vf
    have w1:IntKind.i64.wrap ((y:Int)+1)=((y+1:Nat):Int):=by rw[aO (by omega) (by omega)];omega
    rcases Nat.lt_or_ge y rows with hlt | hge
    ·have hii:(y:Int)<rows:=by omega
     simp -implicitDefEqProofs -dsimp only[ah,ai h3,hii,k9,ld,k8,k7,w1,vcS,↓vcQ,simprocAttr]
     rw[<-ly]
     refine xp h3 gy hlt ?_
     simp -implicitDefEqProofs -dsimp only[ah,ai h3,hii,k9,ld,k8,k7,w1,vcS,↓vcQ,simprocAttr]
     have hrow:=cY (aa:=aa) hlt
     have qI:=bx y aa
     refine rz h3 (by rw[ly,g.len];omega) (by rw[ly];exact hl) fun T3 c3 k3=>?_
     simp -implicitDefEqProofs -dsimp only[ah,hii,k9,ld,k8,k7,w1,an,vcS,↓vcQ,simprocAttr]
     refine ⟨(y+1,T3),⟨rfl,aH _⟩,⟨hlt,h2.new k3 (by simpa using k1.1), ?_⟩,by dsimp only;omega⟩
     rw[<-qI] at c3
     exact c3
    ·have hii:¬(y:Int)<rows:=by omega
     obtain rfl:y=rows:=by omega
     simp -implicitDefEqProofs -dsimp only[ah,ai h3,hii,k9,ld,k8,k7,vcS,↓vcQ,simprocAttr]
     rw[<-ly]
     refine UM h3 hs ly hl ?_
     simp -implicitDefEqProofs -dsimp only[ah,vcS,↓vcQ,simprocAttr]
     have:=h A h2
     unfold pO at this
     rw[hb,decide_eq_true e,Bool.true_and,Bool.true_and] at this
     exact ⟨h2.1,this⟩
 ·have e':¬(L.length:Int)=((rows*aa:Nat):Int):=by omega
  simp -implicitDefEqProofs -dsimp only[ah,az,hw,eq_false e',k9,ld,k8,k7,vcS,↓vcQ,simprocAttr]
  have:=h T (ax.refl _ _)
  unfold pO at this
  rw[decide_eq_false e,Bool.false_and] at this
  exact this
def pe:RFn:=⟨2,24,(SR [MB 5 false] [0,1,2] (SR [MV 6 0,BI 7 .geq 6 0,MV 8 7,MG 9 0 8 true,FG 10 0 2 8 true,LG 11 10 8 true,OG 12 (.bin .lss (.t 9) (.t 11)) 8 true,OP 13 (.pick (.t 8) (.t 12) (.c (.bool false))),MV 14 13,MG 15 1 14 true,OG 16 (.bin .geq (.t 15) (.c (.int .i64 0))) 14 true,OP 17 (.pick (.t 14) (.t 16) (.c (.bool false))),MV 18 17,MG 19 1 18 true,FG 20 1 2 18 true,LG 21 20 18 true,OG 22 (.bin .lss (.t 19) (.t 21)) 18 true,OP 23 (.pick (.t 18) (.t 22) (.c (.bool false))),MV 5 23] [5] .ret)),[.t 5]⟩
theorem BM:aK PG.P (aA PG.P 27 pe) 27=some pe:=by kernel_rfl
def dc:RFn:=⟨1,139,(SR [OP 1 (.box 24 (.t 0)),MB 2 false] [1] (.seq (SR [LT 5 24 1,OP 6 (.call 24 [.t 5]),OP 7 (.un .not (.t 6)),MV 8 7,FG 9 2 1 8 false,LG 10 9 8 false,FG 11 0 1 8 false,LG 12 11 8 false,FG 13 1 1 8 false,LG 14 13 8 false,OG 15 (.call 25 [.t 10,.t 12,.t 14]) 8 false,OG 16 (.un .not (.t 15)) 8 false,OP 17 (.pick (.t 8) (.c (.bool true)) (.t 16)),MV 18 17,FG 19 9 1 18 false,LG 20 19 18 false,OG 21 (.len (.t 20)) 18 false,FG 22 1 1 18 false,LG 23 22 18 false,OG 24 (.bin .neq (.t 21) (.t 23)) 18 false,OP 25 (.pick (.t 18) (.c (.bool true)) (.t 24)),MV 26 25,FG 27 19 1 26 false,OG 28 (.load true 5 (.t 27)) 26 false,OG 29 (.call 26 [.t 28]) 26 false,OG 30 (.un .not (.t 29)) 26 false,OP 31 (.pick (.t 26) (.c (.bool true)) (.t 30))] [1,31] (.cond (.t 31) (SR [MB 2 false] [2] .ret) .skip)) (SR [OP 32 (.xg 27 [.t 1]),MV 3 32] [1,3] (.seq (SR [MV 33 3,FA 34 3 1,LD 35 34,FA 36 4 1,LD 37 36,OP 38 (.iP (.t 33) [.t 35,.t 37]),OP 39 (.un .not (.t 38)),MV 40 39,MG 41 3 40 false,FG 42 10 1 40 false,LG 43 42 40 false,FG 44 11 1 40 false,LG 45 44 40 false,OG 46 (.iP (.t 41) [.t 43,.t 45]) 40 false,OG 47 (.un .not (.t 46)) 40 false,OP 48 (.pick (.t 40) (.c (.bool true)) (.t 47)),MV 49 48,MG 50 3 49 false,FG 51 17 1 49 false,LG 52 51 49 false,FG 53 18 1 49 false,LG 54 53 49 false,OG 55 (.iP (.t 50) [.t 52,.t 54]) 49 false,OG 56 (.un .not (.t 55)) 49 false,OP 57 (.pick (.t 49) (.c (.bool true)) (.t 56)),MV 58 57,FG 59 5 1 58 false,LG 60 59 58 false,MG 61 60 58 false,FG 62 4 1 61 true,LG 63 62 61 true,FG 64 1 1 61 true,LG 65 64 61 true,OG 66 (.bin .sub (.t 65) (.c (.int .i64 1))) 61 true,OG 67 (.bin .neq (.t 63) (.t 66)) 61 true,OG 68 (.pick (.t 61) (.t 67) (.c (.bool false))) 58 false,OP 69 (.pick (.t 58) (.c (.bool true)) (.t 68)),MV 70 69,FG 71 6 1 70 false,LG 72 71 70 false,OG 73 (.call 28 [.t 72]) 70 false,OG 74 (.un .not (.t 73)) 70 false,OP 75 (.pick (.t 70) (.c (.bool true)) (.t 74)),MV 76 75,FG 77 12 1 76 false,LG 78 77 76 false,OG 79 (.call 28 [.t 78]) 76 false,OG 80 (.un .not (.t 79)) 76 false,OP 81 (.pick (.t 76) (.c (.bool true)) (.t 80))] [1,81] (.cond (.t 81) (SR [MB 2 false] [2] .ret) .skip)) (SR [FA 82 0 1,LD 83 82,BI 84 .eql 83 1,MV 85 84,FG 86 7 1 85 true,LG 87 86 85 true,OG 88 (.bin .eql (.t 87) (.c (.int .i64 0))) 85 true,OP 89 (.pick (.t 85) (.t 88) (.c (.bool false))),MV 90 89,FG 91 8 1 90 true,LG 92 91 90 true,OG 93 (.bin .eql (.t 92) (.c (.int .i64 0))) 90 true,OP 94 (.pick (.t 90) (.t 93) (.c (.bool false))),MV 4 94] [1,4] (.seq (SR [MV 95 4,OP 96 (.un .not (.t 95)),MV 97 96,FG 98 7 1 97 true,LG 99 98 97 true,OG 100 (.bin .lss (.t 99) (.c (.int .i64 0))) 97 true,MG 101 100 97 true,FG 102 7 1 101 false,LG 103 102 101 false,FG 104 8 1 101 false,LG 105 104 101 false,OG 106 (.bin .geq (.t 103) (.t 105)) 101 false,OG 107 (.pick (.t 101) (.c (.bool true)) (.t 106)) 97 true,MG 108 107 97 true,FG 109 8 1 108 false,LG 110 109 108 false,FG 111 0 1 108 false,LG 112 111 108 false,OG 113 (.bin .geq (.t 110) (.t 112)) 108 false,OG 114 (.pick (.t 108) (.c (.bool true)) (.t 113)) 97 true,OP 115 (.pick (.t 97) (.t 114) (.c (.bool false)))] [1,115] (.cond (.t 115) (SR [MB 2 false] [2] .ret) .skip)) (.seq (SR [FA 116 15 1,LD 117 116] [1,117] (.cond (.t 117) (SR [FA 118 16 1,LD 119 118,FA 120 0 1,LD 121 120,FA 122 1 1,LD 123 122,OP 124 (.call 25 [.t 119,.t 121,.t 123]),MV 2 124] [2] .ret) .skip)) (SR [FA 125 16 1,LD 126 125,OP 127 (.len (.t 126)),BI 128 .eql 127 0,MV 129 128,FG 130 17 1 129 true,LG 131 130 129 true,OG 132 (.bin .eql (.t 131) (.c (.int .i64 0))) 129 true,OP 133 (.pick (.t 129) (.t 132) (.c (.bool false))),MV 134 133,FG 135 18 1 134 true,LG 136 135 134 true,OG 137 (.bin .eql (.t 136) (.c (.int .i64 0))) 134 true,OP 138 (.pick (.t 134) (.t 137) (.c (.bool false))),MV 2 138] [2] .ret)))))))),[.t 2]⟩
theorem fN:aK PG.P (aA PG.P 10 dc) 10=some dc:=by kernel_rfl
def y8:RFn:=⟨2,12,(SR [OP 2 (.box 24 (.t 0)),OP 4 (.mov (.c (.sl 0 [] .nil)))] [1,2] (SR [FA 5 2 2,LD 6 5,FA 7 1 2,LD 8 7,MV 9 1,OP 10 (.call 44 [.t 6,.t 8,.t 9]),OP 11 (.call 43 [.t 10]),MV 4 11] [4] .ret)),[.t 4]⟩
theorem JZ:aK PG.P (aA PG.P 23 y8) 23=some y8:=by kernel_rfl
theorem fX (ha:0<=a/\a<=65535)(h:∀T',ax T T' []->K (.bool (atB a)) T'):aj PG 28 [.int .u16 a] T K:=by
 have e:ceB ⟨32,a,0⟩=atB a:=by
  unfold ceB
  rw[decide_eq_true (by dsimp only;omega),Bool.true_and]
 have er:Ce.row ⟨32,a,0⟩=[.int .i32 32,.int .u16 a,.int .u8 0]:=rfl
 refine aj.aE FOk.nil GK (by simp[vh]) ?_
 unfold vh
 dsimp only
 simp -implicitDefEqProofs -dsimp only[ah,vcS,↓vcQ,simprocAttr]
 refine Gm (c:=⟨32,a,0⟩) ⟨by dsimp only;omega,ha,by dsimp only;omega⟩ fun T' k=>?_
 rw[e]
 simp -implicitDefEqProofs -dsimp only[ah,vcS,↓vcQ,simprocAttr]
 exact ⟨k.1,h _ k⟩
theorem kD {m pr:Int}{d1 d2 d3:DV}(pa:xH p m pr d1 d2 d3)(pk:cS p)(h:K (.bool (cF p)) T):aj PG 26 [.agg [.int .i64 m,.int .u8 pr,d1,d2,d3]] T K:=by
 obtain ⟨j1,j2,j3,j4,j5,j6,j7⟩:=pk
 have P:=(QB j1 j2 j3 ⟨j4,j5,j6⟩).wk (a:=[.agg [.int .i64 m,.int .u8 pr,d1,d2,d3]]) (by
  unfold paD
  rw[pa.m,pa.pr,<-pa.e1,<-pa.e2,<-pa.e3]
  exact ⟨⟨rfl,rfl,gR (de pa.i1) pa.i1,gR (de pa.i2) pa.i2,gR (de pa.i3) pa.i3,trivial⟩,trivial⟩)
 refine aj.pure P fun r os ⟨h1,h2⟩=>?_
 subst h1 h2
 rw[List.append_nil]
 exact h
theorem cv {b:Nat}{z1 z2 z3:Nat}{k1 k2 k3:SK}{m pr:Int}{d1 d2 d3:DV}{y x:Nat}(hb:T[b]?=some (some (.box (scD s z1 z2 z3 k1 k2 k3 m pr d1 d2 d3))))(hy:y<s.rows)(hx:x<s.aa)(h:K (.bool true) T) :
  aj PG 27 [.int .i64 y,.int .i64 x,.ptr b 0 0] T K:=by
 unfold scD at hb
 have a1:(0:Int)<=y:=by omega
 have a2:(y:Int)<s.rows:=by omega
 have a3:(0:Int)<=x:=by omega
 have a4:(x:Int)<s.aa:=by omega
 refine aj.aE FOk.nil BM (by simp[pe]) ?_
 unfold pe
 dsimp only
 simp -implicitDefEqProofs -dsimp only[ah,ai hb,a1,a2,a3,a4,vcS,↓vcQ,simprocAttr]
 exact h
theorem bS:fR PG.P 27=true:=by kernel_rfl
structure ScR (s:Sc) (p:Pa):Prop where
 ci:∀c∈s.cells,qg c
 oi:∀c∈s.other,qg c
 cb:pO s.cells s.rows s.aa=true
 ob:s.alt=true->pO s.other s.rows s.aa=true
 ab:atB s.attr=true
 sb:atB s.eg=true
 pb:cF p=true
set_option maxHeartbeats 1000000 in
theorem JG (ok:aR s)(pk:cS p)(hv:aJ s p v)(R:ScR s p)(hwr:s.wrap=false)(hr1:s.rows=1)(halt:s.alt=false)(h:∀T',ax T T' []->K (.bool true) T'):aj PG 10 [v] T K:=by
 obtain ⟨z1,z2,z3,k1,k2,k3,m,pr,d1,d2,d3,sv,rfl⟩:=hv
 have o1:DV.one d1=true:=by obtain ⟨a,b,e,_⟩:=aC sv.pa.i1;rw[e];rfl
 have o2:DV.one d2=true:=by obtain ⟨a,b,e,_⟩:=aC sv.pa.i2;rw[e];rfl
 have o3:DV.one d3=true:=by obtain ⟨a,b,e,_⟩:=aC sv.pa.i3;rw[e];rfl
 have esc:scD s z1 z2 z3 k1 k2 k3 m pr d1 d2 d3=[.int .i64 s.rows,.int .i64 s.aa,.sl z1 (aq s.cells) k1,.int .i64 s.y,.int .i64 s.x,.bool s.wrap,.int .u16 s.attr,.int .i64 s.top,.int .i64 s.bot,.sl z2 (bg s.aP) k2,.int .i64 s.sy,.int .i64 s.sx,.int .u16 s.eg,.bool s.auto,.bool s.shown,.bool s.alt,.sl z3 (aq s.other) k3,.int .i64 s.oy,.int .i64 s.ox,.int .i64 m,.int .u8 pr,d1,d2,d3]:=rfl
 have hl:=ok.g.lim
 have e1:(s.aP.length:Int)=s.aa:=by rw[ok.aP]
 have hol:s.other.length<=1000000:=by
  cases ha:s.alt with
  | true=>exact (ok.alt ha).lim.1
  | false=>rw[(ok.non ha).1];simp
 have hrr:=ok.g.r
 have hcc:=ok.g.c
 have htb:=ok.tb
 have hbb:=ok.b
 have wx:IntKind.i64.wrap ((s.aa:Int)-1)=((s.aa-1:Nat):Int):=by rw[aO (by omega) (by omega)];omega
 have a1:(s.rows:Int)=1:=by omega
 have a2:(s.top:Int)=0:=by omega
 have a3:(s.bot:Int)=0:=by omega
 obtain ⟨c1,c2,c3⟩:=ok.non halt
 have c1':(s.other.length:Int)=0:=by rw[c1];rfl
 have c2':(s.oy:Int)=0:=by omega
 have c3':(s.ox:Int)=0:=by omega
 refine aj.aE FOk.nil fN (by simp[dc]) ?_
 unfold dc
 dsimp only
 rw[esc]
 simp -implicitDefEqProofs -dsimp only[ah,o1,o2,o3,vcS,↓vcQ,simprocAttr]
 refine jD ok o1 o2 o3 fun T1 g1=>?_
 have hb1:=g1.at (aZ T [] (some (Ob.box _))) (by simp)
 simp -implicitDefEqProofs -dsimp only[ah,ai hb1,o1,o2,o3,vcS,↓vcQ,simprocAttr]
 refine gF (.inl sv.z1) hl.1 R.ci ok.g.r ok.g.c fun T2 g2=>?_
 have hb2:=g2.at hb1 (by simp)
 rw[R.cb]
 simp -implicitDefEqProofs -dsimp only[ah,ai hb2,o1,o2,o3,aY,eq_true e1,vcS,↓vcQ,simprocAttr]
 refine kD sv.pa pk ?_
 rw[R.pb]
 simp -implicitDefEqProofs -dsimp only[ah,ai hb2,o1,o2,o3,bS,↓bh,aX,vcS,↓vcQ,simprocAttr]
 have sc2:T2[T.length]?=some (some (.box (scD s z1 z2 z3 k1 k2 k3 m pr d1 d2 d3))):=hb2
 refine cv sc2 ok.y ok.x ?_
 simp -implicitDefEqProofs -dsimp only[ah,ai hb2,o1,o2,o3,bS,↓bh,aX,vcS,↓vcQ,simprocAttr]
 refine cv sc2 ok.sy ok.sx ?_
 simp -implicitDefEqProofs -dsimp only[ah,ai hb2,o1,o2,o3,bS,↓bh,aX,vcS,↓vcQ,simprocAttr]
 refine cv sc2 ok.oy ok.ox ?_
 simp -implicitDefEqProofs -dsimp only[ah,ai hb2,o1,o2,o3,bS,↓bh,aX,wx,hwr,halt,eq_true a1,eq_true a2,eq_true a3,eq_true c1',eq_true c2',eq_true c3',vcS,↓vcQ,simprocAttr]
 refine fX ok.at' fun T3 g3=>?_
 rw[R.ab]
 have hb3:=g3.at hb2 (by simp)
 simp -implicitDefEqProofs -dsimp only[ah,ai hb3,o1,o2,o3,wx,hwr,halt,eq_true a1,eq_true a2,eq_true a3,eq_true c1',eq_true c2',eq_true c3',vcS,↓vcQ,simprocAttr]
 refine fX ok.sat fun T4 g4=>?_
 rw[R.sb]
 have hb4:=g4.at hb3 (by simp)
 have kT:ax T T4 []:=((((ax.app T [_] []).new g1 (by simp)).new g2 (by simp)).new g3 (by simp)).new g4 (by simp)
 simp -implicitDefEqProofs -dsimp only[ah,ai hb4,o1,o2,o3,az,wx,hwr,halt,eq_true a1,eq_true a2,eq_true a3,eq_true c1',eq_true c2',eq_true c3',vcS,↓vcQ,simprocAttr]
 exact ⟨kT.1,h _ kT⟩
set_option maxHeartbeats 1000000 in
theorem JF (ok:aR s)(pk:cS p)(hv:aJ s p v)(R:ScR s p)(hwr:s.wrap=false)(hr1:s.rows=1)(halt:s.alt=true)(h:∀T',ax T T' []->K (.bool true) T'):aj PG 10 [v] T K:=by
 obtain ⟨z1,z2,z3,k1,k2,k3,m,pr,d1,d2,d3,sv,rfl⟩:=hv
 have o1:DV.one d1=true:=by obtain ⟨a,b,e,_⟩:=aC sv.pa.i1;rw[e];rfl
 have o2:DV.one d2=true:=by obtain ⟨a,b,e,_⟩:=aC sv.pa.i2;rw[e];rfl
 have o3:DV.one d3=true:=by obtain ⟨a,b,e,_⟩:=aC sv.pa.i3;rw[e];rfl
 have esc:scD s z1 z2 z3 k1 k2 k3 m pr d1 d2 d3=[.int .i64 s.rows,.int .i64 s.aa,.sl z1 (aq s.cells) k1,.int .i64 s.y,.int .i64 s.x,.bool s.wrap,.int .u16 s.attr,.int .i64 s.top,.int .i64 s.bot,.sl z2 (bg s.aP) k2,.int .i64 s.sy,.int .i64 s.sx,.int .u16 s.eg,.bool s.auto,.bool s.shown,.bool s.alt,.sl z3 (aq s.other) k3,.int .i64 s.oy,.int .i64 s.ox,.int .i64 m,.int .u8 pr,d1,d2,d3]:=rfl
 have hl:=ok.g.lim
 have e1:(s.aP.length:Int)=s.aa:=by rw[ok.aP]
 have hol:s.other.length<=1000000:=by
  cases ha:s.alt with
  | true=>exact (ok.alt ha).lim.1
  | false=>rw[(ok.non ha).1];simp
 have hrr:=ok.g.r
 have hcc:=ok.g.c
 have htb:=ok.tb
 have hbb:=ok.b
 have wx:IntKind.i64.wrap ((s.aa:Int)-1)=((s.aa-1:Nat):Int):=by rw[aO (by omega) (by omega)];omega
 have a1:(s.rows:Int)=1:=by omega
 have a2:(s.top:Int)=0:=by omega
 have a3:(s.bot:Int)=0:=by omega
 refine aj.aE FOk.nil fN (by simp[dc]) ?_
 unfold dc
 dsimp only
 rw[esc]
 simp -implicitDefEqProofs -dsimp only[ah,o1,o2,o3,vcS,↓vcQ,simprocAttr]
 refine jD ok o1 o2 o3 fun T1 g1=>?_
 have hb1:=g1.at (aZ T [] (some (Ob.box _))) (by simp)
 simp -implicitDefEqProofs -dsimp only[ah,ai hb1,o1,o2,o3,vcS,↓vcQ,simprocAttr]
 refine gF (.inl sv.z1) hl.1 R.ci ok.g.r ok.g.c fun T2 g2=>?_
 have hb2:=g2.at hb1 (by simp)
 rw[R.cb]
 simp -implicitDefEqProofs -dsimp only[ah,ai hb2,o1,o2,o3,aY,eq_true e1,vcS,↓vcQ,simprocAttr]
 refine kD sv.pa pk ?_
 rw[R.pb]
 simp -implicitDefEqProofs -dsimp only[ah,ai hb2,o1,o2,o3,bS,↓bh,aX,vcS,↓vcQ,simprocAttr]
 have sc2:T2[T.length]?=some (some (.box (scD s z1 z2 z3 k1 k2 k3 m pr d1 d2 d3))):=hb2
 refine cv sc2 ok.y ok.x ?_
 simp -implicitDefEqProofs -dsimp only[ah,ai hb2,o1,o2,o3,bS,↓bh,aX,vcS,↓vcQ,simprocAttr]
 refine cv sc2 ok.sy ok.sx ?_
 simp -implicitDefEqProofs -dsimp only[ah,ai hb2,o1,o2,o3,bS,↓bh,aX,vcS,↓vcQ,simprocAttr]
 refine cv sc2 ok.oy ok.ox ?_
 simp -implicitDefEqProofs -dsimp only[ah,ai hb2,o1,o2,o3,bS,↓bh,aX,wx,hwr,halt,eq_true a1,eq_true a2,eq_true a3,vcS,↓vcQ,simprocAttr]
 refine fX ok.at' fun T3 g3=>?_
 rw[R.ab]
 have hb3:=g3.at hb2 (by simp)
 simp -implicitDefEqProofs -dsimp only[ah,ai hb3,o1,o2,o3,wx,hwr,halt,eq_true a1,eq_true a2,eq_true a3,vcS,↓vcQ,simprocAttr]
 refine fX ok.sat fun T4 g4=>?_
 rw[R.sb]
 have hb4:=g4.at hb3 (by simp)
 have kT:ax T T4 []:=((((ax.app T [_] []).new g1 (by simp)).new g2 (by simp)).new g3 (by simp)).new g4 (by simp)
 simp -implicitDefEqProofs -dsimp only[ah,ai hb4,o1,o2,o3,az,wx,hwr,halt,eq_true a1,eq_true a2,eq_true a3,vcS,↓vcQ,simprocAttr]
 refine gF sv.z3 hol R.oi ok.g.r ok.g.c fun T5 g5=>?_
 rw[R.ob halt]
 simp -implicitDefEqProofs -dsimp only[ah,vcS,↓vcQ,simprocAttr]
 exact ⟨(kT.new g5 (by simp)).1,h _ (kT.new g5 (by simp))⟩
set_option maxHeartbeats 1000000 in
theorem zH (ok:aR s)(pk:cS p)(hv:aJ s p v)(R:ScR s p)(hwr:s.wrap=false)(hr1:¬s.rows=1)(halt:s.alt=false)(h:∀T',ax T T' []->K (.bool true) T'):aj PG 10 [v] T K:=by
 obtain ⟨z1,z2,z3,k1,k2,k3,m,pr,d1,d2,d3,sv,rfl⟩:=hv
 have o1:DV.one d1=true:=by obtain ⟨a,b,e,_⟩:=aC sv.pa.i1;rw[e];rfl
 have o2:DV.one d2=true:=by obtain ⟨a,b,e,_⟩:=aC sv.pa.i2;rw[e];rfl
 have o3:DV.one d3=true:=by obtain ⟨a,b,e,_⟩:=aC sv.pa.i3;rw[e];rfl
 have esc:scD s z1 z2 z3 k1 k2 k3 m pr d1 d2 d3=[.int .i64 s.rows,.int .i64 s.aa,.sl z1 (aq s.cells) k1,.int .i64 s.y,.int .i64 s.x,.bool s.wrap,.int .u16 s.attr,.int .i64 s.top,.int .i64 s.bot,.sl z2 (bg s.aP) k2,.int .i64 s.sy,.int .i64 s.sx,.int .u16 s.eg,.bool s.auto,.bool s.shown,.bool s.alt,.sl z3 (aq s.other) k3,.int .i64 s.oy,.int .i64 s.ox,.int .i64 m,.int .u8 pr,d1,d2,d3]:=rfl
 have hl:=ok.g.lim
 have e1:(s.aP.length:Int)=s.aa:=by rw[ok.aP]
 have hol:s.other.length<=1000000:=by
  cases ha:s.alt with
  | true=>exact (ok.alt ha).lim.1
  | false=>rw[(ok.non ha).1];simp
 have hrr:=ok.g.r
 have hcc:=ok.g.c
 have htb:=ok.tb
 have hbb:=ok.b
 have wx:IntKind.i64.wrap ((s.aa:Int)-1)=((s.aa-1:Nat):Int):=by rw[aO (by omega) (by omega)];omega
 have hlt:s.top<s.bot:=by rcases ok.rg with h | h;exact h;exact absurd h hr1
 have a1:¬(s.rows:Int)=1:=by omega
 have a2:¬(s.top:Int)<0:=by omega
 have a3:¬(s.bot:Int)<=s.top:=by omega
 have a4:¬(s.rows:Int)<=s.bot:=by omega
 obtain ⟨c1,c2,c3⟩:=ok.non halt
 have c1':(s.other.length:Int)=0:=by rw[c1];rfl
 have c2':(s.oy:Int)=0:=by omega
 have c3':(s.ox:Int)=0:=by omega
 refine aj.aE FOk.nil fN (by simp[dc]) ?_
 unfold dc
 dsimp only
 rw[esc]
 simp -implicitDefEqProofs -dsimp only[ah,o1,o2,o3,vcS,↓vcQ,simprocAttr]
 refine jD ok o1 o2 o3 fun T1 g1=>?_
 have hb1:=g1.at (aZ T [] (some (Ob.box _))) (by simp)
 simp -implicitDefEqProofs -dsimp only[ah,ai hb1,o1,o2,o3,vcS,↓vcQ,simprocAttr]
 refine gF (.inl sv.z1) hl.1 R.ci ok.g.r ok.g.c fun T2 g2=>?_
 have hb2:=g2.at hb1 (by simp)
 rw[R.cb]
 simp -implicitDefEqProofs -dsimp only[ah,ai hb2,o1,o2,o3,aY,eq_true e1,vcS,↓vcQ,simprocAttr]
 refine kD sv.pa pk ?_
 rw[R.pb]
 simp -implicitDefEqProofs -dsimp only[ah,ai hb2,o1,o2,o3,bS,↓bh,aX,vcS,↓vcQ,simprocAttr]
 have sc2:T2[T.length]?=some (some (.box (scD s z1 z2 z3 k1 k2 k3 m pr d1 d2 d3))):=hb2
 refine cv sc2 ok.y ok.x ?_
 simp -implicitDefEqProofs -dsimp only[ah,ai hb2,o1,o2,o3,bS,↓bh,aX,vcS,↓vcQ,simprocAttr]
 refine cv sc2 ok.sy ok.sx ?_
 simp -implicitDefEqProofs -dsimp only[ah,ai hb2,o1,o2,o3,bS,↓bh,aX,vcS,↓vcQ,simprocAttr]
 refine cv sc2 ok.oy ok.ox ?_
 simp -implicitDefEqProofs -dsimp only[ah,ai hb2,o1,o2,o3,bS,↓bh,aX,wx,hwr,halt,eq_false a1,eq_false a2,eq_false a3,eq_false a4,eq_true c1',eq_true c2',eq_true c3',vcS,↓vcQ,simprocAttr]
 refine fX ok.at' fun T3 g3=>?_
 rw[R.ab]
 have hb3:=g3.at hb2 (by simp)
 simp -implicitDefEqProofs -dsimp only[ah,ai hb3,o1,o2,o3,wx,hwr,halt,eq_false a1,eq_false a2,eq_false a3,eq_false a4,eq_true c1',eq_true c2',eq_true c3',vcS,↓vcQ,simprocAttr]
 refine fX ok.sat fun T4 g4=>?_
 rw[R.sb]
 have hb4:=g4.at hb3 (by simp)
 have kT:ax T T4 []:=((((ax.app T [_] []).new g1 (by simp)).new g2 (by simp)).new g3 (by simp)).new g4 (by simp)
 simp -implicitDefEqProofs -dsimp only[ah,ai hb4,o1,o2,o3,az,wx,hwr,halt,eq_false a1,eq_false a2,eq_false a3,eq_false a4,eq_true c1',eq_true c2',eq_true c3',vcS,↓vcQ,simprocAttr]
 exact ⟨kT.1,h _ kT⟩
set_option maxHeartbeats 1000000 in
theorem JE (ok:aR s)(pk:cS p)(hv:aJ s p v)(R:ScR s p)(hwr:s.wrap=false)(hr1:¬s.rows=1)(halt:s.alt=true)(h:∀T',ax T T' []->K (.bool true) T'):aj PG 10 [v] T K:=by
 obtain ⟨z1,z2,z3,k1,k2,k3,m,pr,d1,d2,d3,sv,rfl⟩:=hv
 have o1:DV.one d1=true:=by obtain ⟨a,b,e,_⟩:=aC sv.pa.i1;rw[e];rfl
 have o2:DV.one d2=true:=by obtain ⟨a,b,e,_⟩:=aC sv.pa.i2;rw[e];rfl
 have o3:DV.one d3=true:=by obtain ⟨a,b,e,_⟩:=aC sv.pa.i3;rw[e];rfl
 have esc:scD s z1 z2 z3 k1 k2 k3 m pr d1 d2 d3=[.int .i64 s.rows,.int .i64 s.aa,.sl z1 (aq s.cells) k1,.int .i64 s.y,.int .i64 s.x,.bool s.wrap,.int .u16 s.attr,.int .i64 s.top,.int .i64 s.bot,.sl z2 (bg s.aP) k2,.int .i64 s.sy,.int .i64 s.sx,.int .u16 s.eg,.bool s.auto,.bool s.shown,.bool s.alt,.sl z3 (aq s.other) k3,.int .i64 s.oy,.int .i64 s.ox,.int .i64 m,.int .u8 pr,d1,d2,d3]:=rfl
 have hl:=ok.g.lim
 have e1:(s.aP.length:Int)=s.aa:=by rw[ok.aP]
 have hol:s.other.length<=1000000:=by
  cases ha:s.alt with
  | true=>exact (ok.alt ha).lim.1
  | false=>rw[(ok.non ha).1];simp
 have hrr:=ok.g.r
 have hcc:=ok.g.c
 have htb:=ok.tb
 have hbb:=ok.b
 have wx:IntKind.i64.wrap ((s.aa:Int)-1)=((s.aa-1:Nat):Int):=by rw[aO (by omega) (by omega)];omega
 have hlt:s.top<s.bot:=by rcases ok.rg with h | h;exact h;exact absurd h hr1
 have a1:¬(s.rows:Int)=1:=by omega
 have a2:¬(s.top:Int)<0:=by omega
 have a3:¬(s.bot:Int)<=s.top:=by omega
 have a4:¬(s.rows:Int)<=s.bot:=by omega
 refine aj.aE FOk.nil fN (by simp[dc]) ?_
 unfold dc
 dsimp only
 rw[esc]
 simp -implicitDefEqProofs -dsimp only[ah,o1,o2,o3,vcS,↓vcQ,simprocAttr]
 refine jD ok o1 o2 o3 fun T1 g1=>?_
 have hb1:=g1.at (aZ T [] (some (Ob.box _))) (by simp)
 simp -implicitDefEqProofs -dsimp only[ah,ai hb1,o1,o2,o3,vcS,↓vcQ,simprocAttr]
 refine gF (.inl sv.z1) hl.1 R.ci ok.g.r ok.g.c fun T2 g2=>?_
 have hb2:=g2.at hb1 (by simp)
 rw[R.cb]
 simp -implicitDefEqProofs -dsimp only[ah,ai hb2,o1,o2,o3,aY,eq_true e1,vcS,↓vcQ,simprocAttr]
 refine kD sv.pa pk ?_
 rw[R.pb]
 simp -implicitDefEqProofs -dsimp only[ah,ai hb2,o1,o2,o3,bS,↓bh,aX,vcS,↓vcQ,simprocAttr]
 have sc2:T2[T.length]?=some (some (.box (scD s z1 z2 z3 k1 k2 k3 m pr d1 d2 d3))):=hb2
 refine cv sc2 ok.y ok.x ?_
 simp -implicitDefEqProofs -dsimp only[ah,ai hb2,o1,o2,o3,bS,↓bh,aX,vcS,↓vcQ,simprocAttr]
 refine cv sc2 ok.sy ok.sx ?_
 simp -implicitDefEqProofs -dsimp only[ah,ai hb2,o1,o2,o3,bS,↓bh,aX,vcS,↓vcQ,simprocAttr]
 refine cv sc2 ok.oy ok.ox ?_
 simp -implicitDefEqProofs -dsimp only[ah,ai hb2,o1,o2,o3,bS,↓bh,aX,wx,hwr,halt,eq_false a1,eq_false a2,eq_false a3,eq_false a4,vcS,↓vcQ,simprocAttr]
 refine fX ok.at' fun T3 g3=>?_
 rw[R.ab]
 have hb3:=g3.at hb2 (by simp)
 simp -implicitDefEqProofs -dsimp only[ah,ai hb3,o1,o2,o3,wx,hwr,halt,eq_false a1,eq_false a2,eq_false a3,eq_false a4,vcS,↓vcQ,simprocAttr]
 refine fX ok.sat fun T4 g4=>?_
 rw[R.sb]
 have hb4:=g4.at hb3 (by simp)
 have kT:ax T T4 []:=((((ax.app T [_] []).new g1 (by simp)).new g2 (by simp)).new g3 (by simp)).new g4 (by simp)
 simp -implicitDefEqProofs -dsimp only[ah,ai hb4,o1,o2,o3,az,wx,hwr,halt,eq_false a1,eq_false a2,eq_false a3,eq_false a4,vcS,↓vcQ,simprocAttr]
 refine gF sv.z3 hol R.oi ok.g.r ok.g.c fun T5 g5=>?_
 rw[R.ob halt]
 simp -implicitDefEqProofs -dsimp only[ah,vcS,↓vcQ,simprocAttr]
 exact ⟨(kT.new g5 (by simp)).1,h _ (kT.new g5 (by simp))⟩
set_option maxHeartbeats 1000000 in
theorem JD (ok:aR s)(pk:cS p)(hv:aJ s p v)(R:ScR s p)(hwr:s.wrap=true)(hr1:s.rows=1)(halt:s.alt=false)(h:∀T',ax T T' []->K (.bool true) T'):aj PG 10 [v] T K:=by
 obtain ⟨z1,z2,z3,k1,k2,k3,m,pr,d1,d2,d3,sv,rfl⟩:=hv
 have o1:DV.one d1=true:=by obtain ⟨a,b,e,_⟩:=aC sv.pa.i1;rw[e];rfl
 have o2:DV.one d2=true:=by obtain ⟨a,b,e,_⟩:=aC sv.pa.i2;rw[e];rfl
 have o3:DV.one d3=true:=by obtain ⟨a,b,e,_⟩:=aC sv.pa.i3;rw[e];rfl
 have esc:scD s z1 z2 z3 k1 k2 k3 m pr d1 d2 d3=[.int .i64 s.rows,.int .i64 s.aa,.sl z1 (aq s.cells) k1,.int .i64 s.y,.int .i64 s.x,.bool s.wrap,.int .u16 s.attr,.int .i64 s.top,.int .i64 s.bot,.sl z2 (bg s.aP) k2,.int .i64 s.sy,.int .i64 s.sx,.int .u16 s.eg,.bool s.auto,.bool s.shown,.bool s.alt,.sl z3 (aq s.other) k3,.int .i64 s.oy,.int .i64 s.ox,.int .i64 m,.int .u8 pr,d1,d2,d3]:=rfl
 have hl:=ok.g.lim
 have e1:(s.aP.length:Int)=s.aa:=by rw[ok.aP]
 have hol:s.other.length<=1000000:=by
  cases ha:s.alt with
  | true=>exact (ok.alt ha).lim.1
  | false=>rw[(ok.non ha).1];simp
 have hrr:=ok.g.r
 have hcc:=ok.g.c
 have htb:=ok.tb
 have hbb:=ok.b
 have wx:IntKind.i64.wrap ((s.aa:Int)-1)=((s.aa-1:Nat):Int):=by rw[aO (by omega) (by omega)];omega
 have ew:(s.x:Int)=((s.aa-1:Nat):Int):=by have:=ok.wr hwr;omega
 have a1:(s.rows:Int)=1:=by omega
 have a2:(s.top:Int)=0:=by omega
 have a3:(s.bot:Int)=0:=by omega
 obtain ⟨c1,c2,c3⟩:=ok.non halt
 have c1':(s.other.length:Int)=0:=by rw[c1];rfl
 have c2':(s.oy:Int)=0:=by omega
 have c3':(s.ox:Int)=0:=by omega
 refine aj.aE FOk.nil fN (by simp[dc]) ?_
 unfold dc
 dsimp only
 rw[esc]
 simp -implicitDefEqProofs -dsimp only[ah,o1,o2,o3,vcS,↓vcQ,simprocAttr]
 refine jD ok o1 o2 o3 fun T1 g1=>?_
 have hb1:=g1.at (aZ T [] (some (Ob.box _))) (by simp)
 simp -implicitDefEqProofs -dsimp only[ah,ai hb1,o1,o2,o3,vcS,↓vcQ,simprocAttr]
 refine gF (.inl sv.z1) hl.1 R.ci ok.g.r ok.g.c fun T2 g2=>?_
 have hb2:=g2.at hb1 (by simp)
 rw[R.cb]
 simp -implicitDefEqProofs -dsimp only[ah,ai hb2,o1,o2,o3,aY,eq_true e1,vcS,↓vcQ,simprocAttr]
 refine kD sv.pa pk ?_
 rw[R.pb]
 simp -implicitDefEqProofs -dsimp only[ah,ai hb2,o1,o2,o3,bS,↓bh,aX,vcS,↓vcQ,simprocAttr]
 have sc2:T2[T.length]?=some (some (.box (scD s z1 z2 z3 k1 k2 k3 m pr d1 d2 d3))):=hb2
 refine cv sc2 ok.y ok.x ?_
 simp -implicitDefEqProofs -dsimp only[ah,ai hb2,o1,o2,o3,bS,↓bh,aX,vcS,↓vcQ,simprocAttr]
 refine cv sc2 ok.sy ok.sx ?_
 simp -implicitDefEqProofs -dsimp only[ah,ai hb2,o1,o2,o3,bS,↓bh,aX,vcS,↓vcQ,simprocAttr]
 refine cv sc2 ok.oy ok.ox ?_
 simp -implicitDefEqProofs -dsimp only[ah,ai hb2,o1,o2,o3,bS,↓bh,aX,wx,hwr,halt,eq_true ew,eq_true a1,eq_true a2,eq_true a3,eq_true c1',eq_true c2',eq_true c3',vcS,↓vcQ,simprocAttr]
 refine fX ok.at' fun T3 g3=>?_
 rw[R.ab]
 have hb3:=g3.at hb2 (by simp)
 simp -implicitDefEqProofs -dsimp only[ah,ai hb3,o1,o2,o3,wx,hwr,halt,eq_true ew,eq_true a1,eq_true a2,eq_true a3,eq_true c1',eq_true c2',eq_true c3',vcS,↓vcQ,simprocAttr]
 refine fX ok.sat fun T4 g4=>?_
 rw[R.sb]
 have hb4:=g4.at hb3 (by simp)
 have kT:ax T T4 []:=((((ax.app T [_] []).new g1 (by simp)).new g2 (by simp)).new g3 (by simp)).new g4 (by simp)
 simp -implicitDefEqProofs -dsimp only[ah,ai hb4,o1,o2,o3,az,wx,hwr,halt,eq_true ew,eq_true a1,eq_true a2,eq_true a3,eq_true c1',eq_true c2',eq_true c3',vcS,↓vcQ,simprocAttr]
 exact ⟨kT.1,h _ kT⟩
set_option maxHeartbeats 1000000 in
theorem JC (ok:aR s)(pk:cS p)(hv:aJ s p v)(R:ScR s p)(hwr:s.wrap=true)(hr1:s.rows=1)(halt:s.alt=true)(h:∀T',ax T T' []->K (.bool true) T'):aj PG 10 [v] T K:=by
 obtain ⟨z1,z2,z3,k1,k2,k3,m,pr,d1,d2,d3,sv,rfl⟩:=hv
 have o1:DV.one d1=true:=by obtain ⟨a,b,e,_⟩:=aC sv.pa.i1;rw[e];rfl
 have o2:DV.one d2=true:=by obtain ⟨a,b,e,_⟩:=aC sv.pa.i2;rw[e];rfl
 have o3:DV.one d3=true:=by obtain ⟨a,b,e,_⟩:=aC sv.pa.i3;rw[e];rfl
 have esc:scD s z1 z2 z3 k1 k2 k3 m pr d1 d2 d3=[.int .i64 s.rows,.int .i64 s.aa,.sl z1 (aq s.cells) k1,.int .i64 s.y,.int .i64 s.x,.bool s.wrap,.int .u16 s.attr,.int .i64 s.top,.int .i64 s.bot,.sl z2 (bg s.aP) k2,.int .i64 s.sy,.int .i64 s.sx,.int .u16 s.eg,.bool s.auto,.bool s.shown,.bool s.alt,.sl z3 (aq s.other) k3,.int .i64 s.oy,.int .i64 s.ox,.int .i64 m,.int .u8 pr,d1,d2,d3]:=rfl
 have hl:=ok.g.lim
 have e1:(s.aP.length:Int)=s.aa:=by rw[ok.aP]
 have hol:s.other.length<=1000000:=by
  cases ha:s.alt with
  | true=>exact (ok.alt ha).lim.1
  | false=>rw[(ok.non ha).1];simp
 have hrr:=ok.g.r
 have hcc:=ok.g.c
 have htb:=ok.tb
 have hbb:=ok.b
 have wx:IntKind.i64.wrap ((s.aa:Int)-1)=((s.aa-1:Nat):Int):=by rw[aO (by omega) (by omega)];omega
 have ew:(s.x:Int)=((s.aa-1:Nat):Int):=by have:=ok.wr hwr;omega
 have a1:(s.rows:Int)=1:=by omega
 have a2:(s.top:Int)=0:=by omega
 have a3:(s.bot:Int)=0:=by omega
 refine aj.aE FOk.nil fN (by simp[dc]) ?_
 unfold dc
 dsimp only
 rw[esc]
 simp -implicitDefEqProofs -dsimp only[ah,o1,o2,o3,vcS,↓vcQ,simprocAttr]
 refine jD ok o1 o2 o3 fun T1 g1=>?_
 have hb1:=g1.at (aZ T [] (some (Ob.box _))) (by simp)
 simp -implicitDefEqProofs -dsimp only[ah,ai hb1,o1,o2,o3,vcS,↓vcQ,simprocAttr]
 refine gF (.inl sv.z1) hl.1 R.ci ok.g.r ok.g.c fun T2 g2=>?_
 have hb2:=g2.at hb1 (by simp)
 rw[R.cb]
 simp -implicitDefEqProofs -dsimp only[ah,ai hb2,o1,o2,o3,aY,eq_true e1,vcS,↓vcQ,simprocAttr]
 refine kD sv.pa pk ?_
 rw[R.pb]
 simp -implicitDefEqProofs -dsimp only[ah,ai hb2,o1,o2,o3,bS,↓bh,aX,vcS,↓vcQ,simprocAttr]
 have sc2:T2[T.length]?=some (some (.box (scD s z1 z2 z3 k1 k2 k3 m pr d1 d2 d3))):=hb2
 refine cv sc2 ok.y ok.x ?_
 simp -implicitDefEqProofs -dsimp only[ah,ai hb2,o1,o2,o3,bS,↓bh,aX,vcS,↓vcQ,simprocAttr]
 refine cv sc2 ok.sy ok.sx ?_
 simp -implicitDefEqProofs -dsimp only[ah,ai hb2,o1,o2,o3,bS,↓bh,aX,vcS,↓vcQ,simprocAttr]
 refine cv sc2 ok.oy ok.ox ?_
 simp -implicitDefEqProofs -dsimp only[ah,ai hb2,o1,o2,o3,bS,↓bh,aX,wx,hwr,halt,eq_true ew,eq_true a1,eq_true a2,eq_true a3,vcS,↓vcQ,simprocAttr]
 refine fX ok.at' fun T3 g3=>?_
 rw[R.ab]
 have hb3:=g3.at hb2 (by simp)
 simp -implicitDefEqProofs -dsimp only[ah,ai hb3,o1,o2,o3,wx,hwr,halt,eq_true ew,eq_true a1,eq_true a2,eq_true a3,vcS,↓vcQ,simprocAttr]
 refine fX ok.sat fun T4 g4=>?_
 rw[R.sb]
 have hb4:=g4.at hb3 (by simp)
 have kT:ax T T4 []:=((((ax.app T [_] []).new g1 (by simp)).new g2 (by simp)).new g3 (by simp)).new g4 (by simp)
 simp -implicitDefEqProofs -dsimp only[ah,ai hb4,o1,o2,o3,az,wx,hwr,halt,eq_true ew,eq_true a1,eq_true a2,eq_true a3,vcS,↓vcQ,simprocAttr]
 refine gF sv.z3 hol R.oi ok.g.r ok.g.c fun T5 g5=>?_
 rw[R.ob halt]
 simp -implicitDefEqProofs -dsimp only[ah,vcS,↓vcQ,simprocAttr]
 exact ⟨(kT.new g5 (by simp)).1,h _ (kT.new g5 (by simp))⟩
set_option maxHeartbeats 1000000 in
theorem JB (ok:aR s)(pk:cS p)(hv:aJ s p v)(R:ScR s p)(hwr:s.wrap=true)(hr1:¬s.rows=1)(halt:s.alt=false)(h:∀T',ax T T' []->K (.bool true) T'):aj PG 10 [v] T K:=by
 obtain ⟨z1,z2,z3,k1,k2,k3,m,pr,d1,d2,d3,sv,rfl⟩:=hv
 have o1:DV.one d1=true:=by obtain ⟨a,b,e,_⟩:=aC sv.pa.i1;rw[e];rfl
 have o2:DV.one d2=true:=by obtain ⟨a,b,e,_⟩:=aC sv.pa.i2;rw[e];rfl
 have o3:DV.one d3=true:=by obtain ⟨a,b,e,_⟩:=aC sv.pa.i3;rw[e];rfl
 have esc:scD s z1 z2 z3 k1 k2 k3 m pr d1 d2 d3=[.int .i64 s.rows,.int .i64 s.aa,.sl z1 (aq s.cells) k1,.int .i64 s.y,.int .i64 s.x,.bool s.wrap,.int .u16 s.attr,.int .i64 s.top,.int .i64 s.bot,.sl z2 (bg s.aP) k2,.int .i64 s.sy,.int .i64 s.sx,.int .u16 s.eg,.bool s.auto,.bool s.shown,.bool s.alt,.sl z3 (aq s.other) k3,.int .i64 s.oy,.int .i64 s.ox,.int .i64 m,.int .u8 pr,d1,d2,d3]:=rfl
 have hl:=ok.g.lim
 have e1:(s.aP.length:Int)=s.aa:=by rw[ok.aP]
 have hol:s.other.length<=1000000:=by
  cases ha:s.alt with
  | true=>exact (ok.alt ha).lim.1
  | false=>rw[(ok.non ha).1];simp
 have hrr:=ok.g.r
 have hcc:=ok.g.c
 have htb:=ok.tb
 have hbb:=ok.b
 have wx:IntKind.i64.wrap ((s.aa:Int)-1)=((s.aa-1:Nat):Int):=by rw[aO (by omega) (by omega)];omega
 have hlt:s.top<s.bot:=by rcases ok.rg with h | h;exact h;exact absurd h hr1
 have ew:(s.x:Int)=((s.aa-1:Nat):Int):=by have:=ok.wr hwr;omega
 have a1:¬(s.rows:Int)=1:=by omega
 have a2:¬(s.top:Int)<0:=by omega
 have a3:¬(s.bot:Int)<=s.top:=by omega
 have a4:¬(s.rows:Int)<=s.bot:=by omega
 obtain ⟨c1,c2,c3⟩:=ok.non halt
 have c1':(s.other.length:Int)=0:=by rw[c1];rfl
 have c2':(s.oy:Int)=0:=by omega
 have c3':(s.ox:Int)=0:=by omega
 refine aj.aE FOk.nil fN (by simp[dc]) ?_
 unfold dc
 dsimp only
 rw[esc]
 simp -implicitDefEqProofs -dsimp only[ah,o1,o2,o3,vcS,↓vcQ,simprocAttr]
 refine jD ok o1 o2 o3 fun T1 g1=>?_
 have hb1:=g1.at (aZ T [] (some (Ob.box _))) (by simp)
 simp -implicitDefEqProofs -dsimp only[ah,ai hb1,o1,o2,o3,vcS,↓vcQ,simprocAttr]
 refine gF (.inl sv.z1) hl.1 R.ci ok.g.r ok.g.c fun T2 g2=>?_
 have hb2:=g2.at hb1 (by simp)
 rw[R.cb]
 simp -implicitDefEqProofs -dsimp only[ah,ai hb2,o1,o2,o3,aY,eq_true e1,vcS,↓vcQ,simprocAttr]
 refine kD sv.pa pk ?_
 rw[R.pb]
 simp -implicitDefEqProofs -dsimp only[ah,ai hb2,o1,o2,o3,bS,↓bh,aX,vcS,↓vcQ,simprocAttr]
 have sc2:T2[T.length]?=some (some (.box (scD s z1 z2 z3 k1 k2 k3 m pr d1 d2 d3))):=hb2
 refine cv sc2 ok.y ok.x ?_
 simp -implicitDefEqProofs -dsimp only[ah,ai hb2,o1,o2,o3,bS,↓bh,aX,vcS,↓vcQ,simprocAttr]
 refine cv sc2 ok.sy ok.sx ?_
 simp -implicitDefEqProofs -dsimp only[ah,ai hb2,o1,o2,o3,bS,↓bh,aX,vcS,↓vcQ,simprocAttr]
 refine cv sc2 ok.oy ok.ox ?_
 simp -implicitDefEqProofs -dsimp only[ah,ai hb2,o1,o2,o3,bS,↓bh,aX,wx,hwr,halt,eq_true ew,eq_false a1,eq_false a2,eq_false a3,eq_false a4,eq_true c1',eq_true c2',eq_true c3',vcS,↓vcQ,simprocAttr]
 refine fX ok.at' fun T3 g3=>?_
 rw[R.ab]
 have hb3:=g3.at hb2 (by simp)
 simp -implicitDefEqProofs -dsimp only[ah,ai hb3,o1,o2,o3,wx,hwr,halt,eq_true ew,eq_false a1,eq_false a2,eq_false a3,eq_false a4,eq_true c1',eq_true c2',eq_true c3',vcS,↓vcQ,simprocAttr]
 refine fX ok.sat fun T4 g4=>?_
 rw[R.sb]
 have hb4:=g4.at hb3 (by simp)
 have kT:ax T T4 []:=((((ax.app T [_] []).new g1 (by simp)).new g2 (by simp)).new g3 (by simp)).new g4 (by simp)
 simp -implicitDefEqProofs -dsimp only[ah,ai hb4,o1,o2,o3,az,wx,hwr,halt,eq_true ew,eq_false a1,eq_false a2,eq_false a3,eq_false a4,eq_true c1',eq_true c2',eq_true c3',vcS,↓vcQ,simprocAttr]
 exact ⟨kT.1,h _ kT⟩
set_option maxHeartbeats 1000000 in
theorem JA (ok:aR s)(pk:cS p)(hv:aJ s p v)(R:ScR s p)(hwr:s.wrap=true)(hr1:¬s.rows=1)(halt:s.alt=true)(h:∀T',ax T T' []->K (.bool true) T'):aj PG 10 [v] T K:=by
 obtain ⟨z1,z2,z3,k1,k2,k3,m,pr,d1,d2,d3,sv,rfl⟩:=hv
 have o1:DV.one d1=true:=by obtain ⟨a,b,e,_⟩:=aC sv.pa.i1;rw[e];rfl
 have o2:DV.one d2=true:=by obtain ⟨a,b,e,_⟩:=aC sv.pa.i2;rw[e];rfl
 have o3:DV.one d3=true:=by obtain ⟨a,b,e,_⟩:=aC sv.pa.i3;rw[e];rfl
 have esc:scD s z1 z2 z3 k1 k2 k3 m pr d1 d2 d3=[.int .i64 s.rows,.int .i64 s.aa,.sl z1 (aq s.cells) k1,.int .i64 s.y,.int .i64 s.x,.bool s.wrap,.int .u16 s.attr,.int .i64 s.top,.int .i64 s.bot,.sl z2 (bg s.aP) k2,.int .i64 s.sy,.int .i64 s.sx,.int .u16 s.eg,.bool s.auto,.bool s.shown,.bool s.alt,.sl z3 (aq s.other) k3,.int .i64 s.oy,.int .i64 s.ox,.int .i64 m,.int .u8 pr,d1,d2,d3]:=rfl
 have hl:=ok.g.lim
 have e1:(s.aP.length:Int)=s.aa:=by rw[ok.aP]
 have hol:s.other.length<=1000000:=by
  cases ha:s.alt with
  | true=>exact (ok.alt ha).lim.1
  | false=>rw[(ok.non ha).1];simp
 have hrr:=ok.g.r
 have hcc:=ok.g.c
 have htb:=ok.tb
 have hbb:=ok.b
 have wx:IntKind.i64.wrap ((s.aa:Int)-1)=((s.aa-1:Nat):Int):=by rw[aO (by omega) (by omega)];omega
 have hlt:s.top<s.bot:=by rcases ok.rg with h | h;exact h;exact absurd h hr1
 have ew:(s.x:Int)=((s.aa-1:Nat):Int):=by have:=ok.wr hwr;omega
 have a1:¬(s.rows:Int)=1:=by omega
 have a2:¬(s.top:Int)<0:=by omega
 have a3:¬(s.bot:Int)<=s.top:=by omega
 have a4:¬(s.rows:Int)<=s.bot:=by omega
 refine aj.aE FOk.nil fN (by simp[dc]) ?_
 unfold dc
 dsimp only
 rw[esc]
 simp -implicitDefEqProofs -dsimp only[ah,o1,o2,o3,vcS,↓vcQ,simprocAttr]
 refine jD ok o1 o2 o3 fun T1 g1=>?_
 have hb1:=g1.at (aZ T [] (some (Ob.box _))) (by simp)
 simp -implicitDefEqProofs -dsimp only[ah,ai hb1,o1,o2,o3,vcS,↓vcQ,simprocAttr]
 refine gF (.inl sv.z1) hl.1 R.ci ok.g.r ok.g.c fun T2 g2=>?_
 have hb2:=g2.at hb1 (by simp)
 rw[R.cb]
 simp -implicitDefEqProofs -dsimp only[ah,ai hb2,o1,o2,o3,aY,eq_true e1,vcS,↓vcQ,simprocAttr]
 refine kD sv.pa pk ?_
 rw[R.pb]
 simp -implicitDefEqProofs -dsimp only[ah,ai hb2,o1,o2,o3,bS,↓bh,aX,vcS,↓vcQ,simprocAttr]
 have sc2:T2[T.length]?=some (some (.box (scD s z1 z2 z3 k1 k2 k3 m pr d1 d2 d3))):=hb2
 refine cv sc2 ok.y ok.x ?_
 simp -implicitDefEqProofs -dsimp only[ah,ai hb2,o1,o2,o3,bS,↓bh,aX,vcS,↓vcQ,simprocAttr]
 refine cv sc2 ok.sy ok.sx ?_
 simp -implicitDefEqProofs -dsimp only[ah,ai hb2,o1,o2,o3,bS,↓bh,aX,vcS,↓vcQ,simprocAttr]
 refine cv sc2 ok.oy ok.ox ?_
 simp -implicitDefEqProofs -dsimp only[ah,ai hb2,o1,o2,o3,bS,↓bh,aX,wx,hwr,halt,eq_true ew,eq_false a1,eq_false a2,eq_false a3,eq_false a4,vcS,↓vcQ,simprocAttr]
 refine fX ok.at' fun T3 g3=>?_
 rw[R.ab]
 have hb3:=g3.at hb2 (by simp)
 simp -implicitDefEqProofs -dsimp only[ah,ai hb3,o1,o2,o3,wx,hwr,halt,eq_true ew,eq_false a1,eq_false a2,eq_false a3,eq_false a4,vcS,↓vcQ,simprocAttr]
 refine fX ok.sat fun T4 g4=>?_
 rw[R.sb]
 have hb4:=g4.at hb3 (by simp)
 have kT:ax T T4 []:=((((ax.app T [_] []).new g1 (by simp)).new g2 (by simp)).new g3 (by simp)).new g4 (by simp)
 simp -implicitDefEqProofs -dsimp only[ah,ai hb4,o1,o2,o3,az,wx,hwr,halt,eq_true ew,eq_false a1,eq_false a2,eq_false a3,eq_false a4,vcS,↓vcQ,simprocAttr]
 refine gF sv.z3 hol R.oi ok.g.r ok.g.c fun T5 g5=>?_
 rw[R.ob halt]
 simp -implicitDefEqProofs -dsimp only[ah,vcS,↓vcQ,simprocAttr]
 exact ⟨(kT.new g5 (by simp)).1,h _ (kT.new g5 (by simp))⟩
theorem Rg (ok:aR s)(pk:cS p)(hv:aJ s p v)(R:ScR s p)(h:∀T',ax T T' []->K (.bool true) T'):aj PG 10 [v] T K:=by
 cases hwr:s.wrap with
 | false=>
  rcases Decidable.em (s.rows=1) with hr1 | hr1
  ·cases halt:s.alt with
   | false=>exact JG ok pk hv R hwr hr1 halt h
   | true=>exact JF ok pk hv R hwr hr1 halt h
  ·cases halt:s.alt with
   | false=>exact zH ok pk hv R hwr hr1 halt h
   | true=>exact JE ok pk hv R hwr hr1 halt h
 | true=>
  rcases Decidable.em (s.rows=1) with hr1 | hr1
  ·cases halt:s.alt with
   | false=>exact JD ok pk hv R hwr hr1 halt h
   | true=>exact JC ok pk hv R hwr hr1 halt h
  ·cases halt:s.alt with
   | false=>exact JB ok pk hv R hwr hr1 halt h
   | true=>exact JA ok pk hv R hwr hr1 halt h
def AlC (L:List Ce):Prop:=∀c∈L,qg c/\ceB c=true
theorem K2:qg aM/\ceB aM=true:=⟨⟨by decide,by decide,by decide⟩,by decide⟩
theorem AlC.rep (n:Nat):AlC (List.replicate n aM):=fun c hc=>by rw[List.eq_of_mem_replicate hc];exact K2
theorem AlC.app {B:List Ce}(a:AlC A)(b:AlC B):AlC (A++B):=fun c hc=>(List.mem_append.1 hc).elim (a c) (b c)
theorem AlC.take (a:AlC A)(n:Nat):AlC (A.take n):=fun c hc=>a c (List.mem_of_mem_take hc)
theorem AlC.drop (a:AlC A)(n:Nat):AlC (A.drop n):=fun c hc=>a c (List.mem_of_mem_drop hc)
theorem AlC.mid {M:List Ce}(a:AlC A)(m:AlC M)(i j:Nat):AlC (cy A i j M):=((a.take i).app m).app (a.drop j)
theorem AlC.up (a:AlC A)(k:Nat):AlC (oN k A):=(a.drop k).app (.rep _)
theorem AlC.dn (a:AlC A)(k:Nat):AlC (oO k A):=(AlC.rep _).app (a.take _)
theorem AlC.getD (a:AlC A)(i:Nat):qg (A.getD i aM)/\ceB (A.getD i aM)=true:=by
 rcases Nat.lt_or_ge i A.length with h | h
 ·rw[List.getD_eq_getElem?_getD,List.getElem?_eq_getElem h];exact a _ (List.getElem_mem h)
 ·rw[OL h];exact K2
theorem AlC.Wp (a:AlC A):AlC (fh A):=fun c hc=>by
 simp only[fh,List.mem_map] at hc
 obtain ⟨i,_,rfl⟩:=hc
 unfold dK
 split
 ·exact K2
 ·exact a.getD i
theorem AlC.set (a:AlC A)(i:Nat){c:Ce}(h:qg c/\ceB c=true):AlC (A.set i c):=fun d hd=>by
 rcases List.mem_or_eq_of_mem_set hd with h1 | h1
 ·exact a d h1
 ·rw[h1];exact h
theorem AlC.row (a:AlC A)(c y:Nat):AlC (cM A c y):=(a.drop _).take _
theorem AlC.put {R:List Ce}(a:AlC A)(r:AlC R)(c y:Nat):AlC (kP A c y R):=a.mid r _ _
theorem AlC.SQ (a:AlC A)(c y:Nat):AlC (cO A c y):=a.put (a.row c y).Wp c y
theorem AlC.upF (a:AlC A)(c t b:Nat)(n:Int):AlC (upF A c t b n):=a.mid (((a.drop _).take _).up _) _ _
theorem AlC.dnF (a:AlC A)(c t b:Nat)(n:Int):AlC (dnF A c t b n):=a.mid (((a.drop _).take _).dn _) _ _
theorem AlC.ins (a:AlC A)(c y x:Nat)(n:Int):AlC (BZ A c y x n):=a.put ((((a.row c y).take x).app (((a.row c y).drop x).dn _)).Wp) c y
theorem AlC.del (a:AlC A)(c y x:Nat)(n:Int):AlC (B5 A c y x n):=a.put ((((a.row c y).take x).app (((a.row c y).drop x).up _)).Wp) c y
theorem AlC.era (a:AlC A)(c y:Nat)(i j:Int):AlC (kY A c y i j):=a.put (((a.row c y).mid (.rep _) _ _).Wp) c y
theorem AlC.gU {s:Sc}(a:AlC s.cells)(k:Int):∀n,AlC (gU s k n)
 | 0=>a
 | n+1=>by
  have ih:=AlC.gU a k n
  unfold Proofs.YtjmnbpilnneonaaGreatDoor.gU
  split
  ·exact ih.era _ _ _ _
  ·split
   ·exact ih.era _ _ _ _
   ·exact ih
theorem AlC.blank (r c:Nat):AlC (dV r c):=.rep _
structure ScC (s:Sc):Prop where
 c:AlC s.cells
 o:AlC s.other
 ab:atB s.attr=true
 sb:atB s.eg=true
theorem SM (r c:Nat):ScC (newF r c):=⟨.blank r c,fun _ h=>(by cases h),(by decide:atB 0=true),(by decide:atB 0=true)⟩
theorem zl (w:ScC s):ScC (cH s):=by
 unfold cH
 split
 ·exact ⟨w.c.upF _ _ _ _,w.o,w.ab,w.sb⟩
 ·split
  ·exact ⟨w.c,w.o,w.ab,w.sb⟩
  ·exact ⟨w.c,w.o,w.ab,w.sb⟩
theorem Wd (w:ScC s):ScC (gE s):=by
 unfold gE
 split
 ·have:=zl w;exact ⟨this.c,this.o,this.ab,this.sb⟩
 ·exact w
theorem CG {r:Int}(h:dB r≠0):32<=r/\r<=1114111/\¬(55296<=r/\r<57344):=by
 unfold dB at h
 split at h
 ·exact absurd rfl h
 ·rename_i hh
  have h1:vJ r=true:=by cases e:vJ r with | true=>rfl | false=>exact absurd (.inl e) hh
  have h2:¬r<32:=fun e=>hh (.inr (.inl e))
  simp only[vJ,decide_eq_true_eq] at h1
  omega
theorem aal {r:Int}{n:Nat}(h:dB r≠0)(ha:atB a=true)(hn:n<=1):ceB ⟨r,a,n⟩=true:=by
 have:=CG h
 unfold ceB
 rw[Bool.and_eq_true]
 refine ⟨decide_eq_true ?_,ha⟩
 dsimp only
 omega
theorem adE (ha:atB a=true):ceB ⟨0,a,2⟩=true:=by
 unfold ceB
 rw[Bool.and_eq_true]
 exact ⟨decide_eq_true (by dsimp only;omega),ha⟩
theorem Rk (ok:aR s)(w:ScC s){r:Int}{n:Nat}(h:dB r≠0):AlC (fL s r n):=by
 have:=CG h
 have ha:=ok.at'
 unfold fL
 split
 ·exact (w.c.set _ ⟨⟨⟨by dsimp only;omega,by dsimp only;omega⟩,ha,by dsimp only;omega⟩,aal (n:=1) h w.ab (by omega)⟩).set _ ⟨⟨⟨by dsimp only;omega,by dsimp only;omega⟩,ha,by dsimp only;omega⟩,adE w.ab⟩
 ·exact w.c.set _ ⟨⟨⟨by dsimp only;omega,by dsimp only;omega⟩,ha,by dsimp only;omega⟩,aal (n:=0) h w.ab (by omega)⟩
theorem RX (ok:aR s)(w:ScC s){r:Int}{n:Nat}(h:dB r≠0):ScC (jY s r n):=by
 unfold jY
 split
 ·exact ⟨(Rk ok w h).SQ _ _,w.o,w.ab,w.sb⟩
 ·exact ⟨(Rk ok w h).SQ _ _,w.o,w.ab,w.sb⟩
theorem R0 (h:aR s)(w:ScC s)(r:Int):ScC (je s r):=by
 have o:=qh h
 have v:=Wd w
 have n:=iy o.1
 have m:=zl v
 unfold je
 split
 ·exact w
 ·split
  ·split
   ·exact v
   ·exact RX (n.1.x0 n.2.2.2.2.1) ⟨m.c,m.o,m.ab,m.sb⟩ ‹_›
  ·exact RX o.1 v ‹_›
theorem abX (w:ScC s)(b:Int):ScC (xD s b):=by
 have n:=zl w
 unfold xD
 repeat' split
 all_goals first | exact w | exact n | exact ⟨w.c,w.o,w.ab,w.sb⟩
theorem abS (w:ScC s)(b:Int):ScC (jS s b):=by
 have n:=zl w
 unfold jS
 repeat' split
 all_goals first | exact w | exact n | exact SM _ _ | exact ⟨n.c,n.o,n.ab,n.sb⟩ | exact ⟨w.c,w.o,w.ab,w.ab⟩ | exact ⟨w.c,w.o,w.sb,w.sb⟩ | exact ⟨w.c.dnF _ _ _ _,w.o,w.ab,w.sb⟩ | exact ⟨w.c,w.o,w.ab,w.sb⟩
theorem Py:((List.range 4096).all fun a=>!atB ((a:Nat):Int) || (decide (a % 16<8) && (decide (a / 16 % 16<9) && decide (a / 256<9))))=true:=by decide +kernel
theorem Vh:((List.range 8).all fun b=>(List.range 9).all fun f=>(List.range 9).all fun g=>(List.range 50).all fun k=>atB (bR ((b+f*16+g*256:Nat):Int) ((k:Nat):Int)))=true:=by decide +kernel
theorem abg {k:Int}(h0:0<=a)(h:atB a=true):atB (bR a k)=true:=by
 rcases Decidable.em (0<=k/\k<50) with hk | hk
 ·have h1:a<4096:=by unfold atB at h;simp only[Bool.and_eq_true,decide_eq_true_eq] at h;omega
  have h2:=List.all_eq_true.1 Py a.toNat (List.mem_range.2 (by omega))
  rw[show ((a.toNat:Nat):Int)=a by omega,h,Bool.not_true,Bool.false_or,Bool.and_eq_true,Bool.and_eq_true,decide_eq_true_eq,decide_eq_true_eq,decide_eq_true_eq] at h2
  have h3:=List.all_eq_true.1 (List.all_eq_true.1 (List.all_eq_true.1 (List.all_eq_true.1 Vh (a.toNat % 16) (List.mem_range.2 h2.1)) (a.toNat / 16 % 16) (List.mem_range.2 h2.2.1)) (a.toNat / 256) (List.mem_range.2 h2.2.2)) k.toNat (List.mem_range.2 (by omega))
  have e1:((a.toNat % 16+a.toNat / 16 % 16*16+a.toNat / 256*256:Nat):Int)=a:=by omega
  rw[e1,show ((k.toNat:Nat):Int)=k by omega] at h3
  exact h3
 ·unfold bR
  rw[if_neg (by omega),if_neg (by omega),if_neg (by omega),if_neg (by omega),if_neg (by omega),if_neg (by omega),if_neg (by omega),if_neg (by omega),if_neg (by omega),if_neg (by omega),if_neg (by omega)]
  exact h
theorem Me:∀{ps:List Int} {a:Int},(0<=a/\a<=65535)->atB a=true->atB (ps.foldl bR a)=true
 | [],a,_,h=>h
 | k::ps,a,ha,h=>Me (ps:=ps) (Hw ha) (abg ha.1 h)
theorem HQ (w:ScC s)(row:Bool)(k:Int):ScC (fW s row k):=by
 unfold fW
 split
 ·cases row
  ·exact ⟨w.c.gU k s.rows,w.o,w.ab,w.sb⟩
  ·exact ⟨w.c.era _ _ _ _,w.o,w.ab,w.sb⟩
 ·exact ⟨w.c,w.o,w.ab,w.sb⟩
theorem abZ (h:aR s)(w:ScC s)(b:Int)(ps:List Int):ScC (eS s b ps):=by
 have nw:ScC { s with wrap:=false}:=⟨w.c,w.o,w.ab,w.sb⟩
 unfold eS
 dsimp only
 have c0:∀{c:Prop} [Decidable c] {x y:Sc},ScC x->ScC y->ScC (if c then x else y):=fun {c} _ {x y} h1 h2=>by
  split
  ·exact h1
  ·exact h2
 refine c0 ⟨w.c,w.o,w.ab,w.sb⟩ (c0 ⟨w.c,w.o,w.ab,w.sb⟩ (c0 ⟨w.c,w.o,w.ab,w.sb⟩ (c0 ⟨w.c,w.o,w.ab,w.sb⟩ (c0 ⟨w.c,w.o,w.ab,w.sb⟩ (c0 ⟨w.c,w.o,w.ab,w.sb⟩ (c0 ⟨w.c,w.o,w.ab,w.sb⟩ ?_))))))
 refine c0 (HQ w _ _) (c0 (HQ w _ _) ?_)
 refine c0 (c0 ⟨w.c.dnF _ _ _ _,w.o,w.ab,w.sb⟩ nw) (c0 (c0 ⟨w.c.upF _ _ _ _,w.o,w.ab,w.sb⟩ nw) ?_)
 refine c0 ⟨w.c.upF _ _ _ _,w.o,w.ab,w.sb⟩ (c0 ⟨w.c.dnF _ _ _ _,w.o,w.ab,w.sb⟩ ?_)
 refine c0 ⟨w.c.ins _ _ _ _,w.o,w.ab,w.sb⟩ (c0 ⟨w.c.del _ _ _ _,w.o,w.ab,w.sb⟩ (c0 ⟨w.c.era _ _ _ _,w.o,w.ab,w.sb⟩ ?_))
 refine c0 (c0 ⟨w.c,w.o,w.ab,w.sb⟩ w) (c0 (c0 ⟨w.c,w.o,w.ab,w.sb⟩ (c0 ⟨w.c,w.o,w.ab,w.sb⟩ w)) (c0 ⟨w.c,w.o, ?_,w.sb⟩ w))
 show atB (if ps=[] then 0 else ps.foldl bR s.attr)=true
 split
 ·decide
 ·exact Me h.at' w.ab
theorem Yp {on:Bool}(w:ScC s)(k:Int):ScC (eD on s k):=by
 unfold eD
 split
 ·exact ⟨w.c,w.o,w.ab,w.sb⟩
 split
 ·exact ⟨w.c,w.o,w.ab,w.sb⟩
 split
 ·exact ⟨.blank _ _,w.c,w.ab,w.sb⟩
 split
 ·exact ⟨w.o,fun _ h=>(by cases h),w.ab,w.sb⟩
 ·exact w
theorem Ma {on:Bool}:∀{ps:List Int} {s:Sc},ScC s->ScC (ps.foldl (eD on) s)
 | [],s,w=>w
 | k::ps,s,w=>Ma (ps:=ps) (Yp w k)
theorem adA (h:aR s)(w:ScC s)(k r b pv:Int)(ps is:List Int):ScC (doF s k r b pv ps is):=by
 unfold doF
 split
 ·exact R0 h w r
 split
 ·exact abX w b
 split
 ·exact abS w b
 split
 ·exact abZ h w b ps
 split
 ·split
  ·exact Ma w
  ·exact w
 ·exact w
theorem Vo:∀{l:List Ac} {s:Sc},aR s->ScC s->ScC (l.foldl ug s)
 | [],s,_,w=>w
 | a::l,s,h,w=>Vo (l:=l) (KJ h _ _ _ _ _ _) (adA h w _ _ _ _ _ _)
structure ScF (x:Sc × Pa):Prop where
 ok:aR x.1
 pk:cS x.2
 w:ScW x.1
 c:ScC x.1
 rt:Rt x.2
theorem Zf {x:Sc × Pa}{c:Int}(h:ScF x)(hc:0<=c/\c<=255):ScF (eJ x c):=⟨wm h.ok,rD h.pk hc,Vn h.ok h.w,Vo h.ok h.c,Qw h.rt hc⟩
theorem AJ:∀{l:List Int} {x:Sc × Pa},ScF x->(∀c∈l,0<=c/\c<=255)->ScF (l.foldl eJ x)
 | [],x,h,_=>h
 | c::l,x,h,hb=>AJ (l:=l) (x:=eJ x c) (Zf h (hb c (by simp))) fun d hd=>hb d (by simp[hd])
theorem Kk {r c:Nat}(hr:1<=r/\r<=1000)(hc:1<=c/\c<=1000):ScF (newF r c,pa0 0):=⟨vH hr hc,mE 0,SL hr hc,SM r c,Rt.pa0 (by decide)⟩
theorem Hq {L:List Ce}{rows aa:Nat}(g:bU L rows aa)(w:WhG L rows aa):∀y,y<=rows->tP L aa y=L
 | 0,_=>rfl
 | y+1,h=>by
  unfold tP
  rw[Hq g w y (by omega)]
  unfold cO
  rw[w y (by omega)]
  refine Ay (g.ej (fO g (by omega) (bG g (by omega)))) g fun y' hy'=>?_
  rw[mb g (by omega) hy' (bG g (by omega))]
  split
  ·rename_i e;rw[e]
  ·rfl
theorem Ms (g:bU L rows aa)(w:WhG L rows aa)(a:AlC L):pO L rows aa=true:=by
 unfold pO
 rw[decide_eq_true g.len,decide_eq_true (Hq g w rows (Nat.le_refl _)),Bool.and_true,Bool.true_and]
 exact List.all_eq_true.2 fun c hc=>(a c hc).2
end
end Go.Proofs.YtjmnbpilnneonaaGreatDoor
