/- Texts R22, R27, R24 in one. -/
import Derived.Test.YtjmnbpilnneonaaGreatDoorNJ
set_option linter.unusedVariables false
set_option linter.unusedSimpArgs false
set_option maxRecDepth 10000
namespace Go.Proofs.YtjmnbpilnneonaaGreatDoor
open Go.RowKit
noncomputable section
variable {T:ay}{x:Sc × Pa}{m pr:Int}{K:DV->ay->Prop}{z1 z2 z3:Nat}{k1 k2 k3:SK}{d1 d2 d3:DV}{Q:Exit->St->Prop}
def wW:RFn:=⟨1,45,(SR [OP 1 (.box 3 (.t 0)),MB 2 false] [1] (SR [FA 3 0 1,LD 4 3,OP 5 (.call 87 [.t 4]),MV 6 5,FG 7 1 1 6 true,LG 8 7 6 true,OG 9 (.bin .lss (.t 8) (.c (.int .u16 4096))) 6 true,OP 10 (.pick (.t 6) (.t 9) (.c (.bool false))),MV 11 10,FG 12 1 1 11 true,LG 13 12 11 true,OG 14 (.bin .and (.t 13) (.c (.int .u16 8))) 11 true,OG 15 (.bin .eql (.t 14) (.c (.int .u16 0))) 11 true,OP 16 (.pick (.t 11) (.t 15) (.c (.bool false))),MV 17 16,FG 18 1 1 17 true,LG 19 18 17 true,OG 20 (.bin .shr (.t 19) (.c (.int .u64 4))) 17 true,OG 21 (.bin .and (.t 20) (.c (.int .u16 15))) 17 true,OG 22 (.bin .leq (.t 21) (.c (.int .u16 8))) 17 true,OP 23 (.pick (.t 17) (.t 22) (.c (.bool false))),MV 24 23,FG 25 1 1 24 true,LG 26 25 24 true,OG 27 (.bin .shr (.t 26) (.c (.int .u64 8))) 24 true,OG 28 (.bin .and (.t 27) (.c (.int .u16 15))) 24 true,OG 29 (.bin .leq (.t 28) (.c (.int .u16 8))) 24 true,OP 30 (.pick (.t 24) (.t 29) (.c (.bool false))),MV 31 30,FG 32 2 1 31 true,LG 33 32 31 true,OG 34 (.bin .leq (.t 33) (.c (.int .u8 2))) 31 true,OP 35 (.pick (.t 31) (.t 34) (.c (.bool false))),MV 36 35,FG 37 0 1 36 true,LG 38 37 36 true,OG 39 (.bin .eql (.t 38) (.c (.int .i32 0))) 36 true,FG 40 2 1 36 true,LG 41 40 36 true,OG 42 (.bin .eql (.t 41) (.c (.int .u8 2))) 36 true,OG 43 (.eqB false (.t 39) (.t 42)) 36 true,OP 44 (.pick (.t 36) (.t 43) (.c (.bool false))),MV 2 44] [2] .ret)),[.t 2]⟩
theorem Da:aK PG.P (aA PG.P 52 wW) 52=some wW:=by kernel_rfl
def uO:RFn:=⟨1,6,(SR [MB 2 false] [0] (SR [MV 3 0,OP 4 (.build [.int .i32 0,.int .u16 0,.int .u8 0] [(0,(1,(.c (.int .i32 32)))),(1,(1,(.t 3)))]),OP 5 (.call 52 [.t 4]),MV 2 5] [2] .ret)),[.t 2]⟩
theorem Gy:aK PG.P (aA PG.P 30 uO) 30=some uO:=by kernel_rfl
def uN:RC:=(.seq (SR [MV 17 7,MV 18 0,OP 19 (.len (.t 18)),BT 20 .lss 17 19] [0,1,2,7,20] (.cond (.t 20) .skip (.ext 0))) (.seq (.blk 1 (SR [MV 23 0,MV 24 7,OP 25 (.aT 3 (.t 23) (.t 24)),LT 26 3 25,OP 27 (.call 52 [.t 26]),OP 28 (.un .not (.t 27))] [0,1,2,7,28] (.cond (.t 28) (SR [MB 6 false] [6] .ret) .skip))) (.reg [MV 21 7,BI 22 .add 21 1,MV 7 22] 0 [0,1,2,7])))
def uM:RC:=(.seq (SR [MV 38 10,MV 39 2,BT 40 .lss 38 39] [0,1,2,8,9,10,40] (.cond (.t 40) .skip (.ext 4))) (.seq (.blk 5 (.seq (.cJ (.take (MV 43 9) [] (.take (MV 44 8) [] (.take (MV 45 2) [] (.take (BT 46 .mul 44 45) [] (.take (MV 47 10) [] (.take (BT 48 .add 46 47) [] (.take (OP 49 (.aT 3 (.t 43) (.t 48))) [] (.take (LT 50 3 49) [] (.take (MV 51 0) [] (.take (MV 52 8) [] (.take (MV 53 2) [] (.take (BT 54 .mul 52 53) [] (.take (MV 55 10) [] (.take (BT 56 .add 54 55) [] (.take (OP 57 (.aT 3 (.t 51) (.t 56))) [] (.take (LT 58 3 57) [] (.take (OP 59 (.eqS true [.i,.i,.i] (.t 50) (.t 58))) [] .done))))))))))))))))) 0 [0,1,2,8,9,10,59]) (.cond (.t 59) (SR [MB 6 false] [6] .ret) .skip))) (.reg [MV 41 10,BI 42 .add 41 1,MV 10 42] 0 [0,1,2,8,9,10])))
def uL:RC:=(.seq (SR [MV 29 8,MV 30 1,BT 31 .lss 29 30] [0,1,2,8,31] (.cond (.t 31) .skip (.ext 2))) (.seq (.blk 3 (SR [MV 34 0,MV 35 2,MV 36 8,OP 37 (.call 53 [.t 34,.t 35,.t 36]),MV 9 37] [0,1,2,8,9] (SR [OP 10 (.mov (.c (.int .i64 0)))] [0,1,2,8,9,10] (.blk 4 (.loop uM))))) (.reg [MV 32 8,BI 33 .add 32 1,MV 8 33] 0 [0,1,2,8])))
def rN:RFn:=⟨3,60,(SR [MB 6 false] [0,1,2] (.seq (SR [MV 11 0,OP 12 (.len (.t 11)),MV 13 1,MV 14 2,BT 15 .mul 13 14,BT 16 .neq 12 15] [0,1,2,16] (.cond (.t 16) (SR [MB 6 false] [6] .ret) .skip)) (.seq (SR [OP 7 (.mov (.c (.int .i64 0)))] [0,1,2,7] (.blk 0 (.loop uN))) (.seq (SR [OP 8 (.mov (.c (.int .i64 0)))] [0,1,2,8] (.blk 2 (.loop uL))) (SR [MB 6 true] [6] .ret))))),[.t 6]⟩
theorem Ee:aK PG.P (aA PG.P 29 rN) 29=some rN:=by kernel_rfl
theorem NZ {f:Nat}{p i u:DV}{rest:List DV}{R:Nat->DV->ay->Prop}(h1:aD .i64 p)(h2:aD .u8 i)(h3:aD .u8 u)(h:av PG f (paD ⟨m,pr,aG p,aG i,aG u⟩::rest) R):av PG f (.agg [.int .i64 m,.int .u8 pr,p,i,u]::rest) R:=
 h.wk ⟨⟨rfl,rfl,gR (de h1) h1,gR (de h2) h2,gR (de h3) h3,trivial⟩,qi fK _⟩
def qX:List DV->Option aS
 | [.agg [.int .i64 m,.int .u8 pr,p,i,u]]=>some ⟨aD .i64 p/\aD .u8 i/\aD .u8 u/\((aG p).length<=1000/\(aG i).length<=1000/\(aG u).length<=1000),fun n=>(.bool (cF ⟨m,pr,aG p,aG i,aG u⟩),[])⟩
 | _=>none
theorem iE (m pr:Int)(p i u:DV):qX [.agg [.int .i64 m,.int .u8 pr,p,i,u]]=some ⟨aD .i64 p/\aD .u8 i/\aD .u8 u/\((aG p).length<=1000/\(aG i).length<=1000/\(aG u).length<=1000),fun n=>(.bool (cF ⟨m,pr,aG p,aG i,aG u⟩),[])⟩:=ak _
theorem RL {f:Nat}(h:∀{p:Pa},inK .i64 p.P->inK .u8 p.I->inK .u8 p.U->(p.P.length<=1000/\p.I.length<=1000/\p.U.length<=1000)->av PG f [paD p] fun n r os=>r=.bool (cF p)/\os=[])(args:List DV)(s:aS)(hs:qX args=some s)(hp:s.pre):av PG f args fun n r os=>r=(s.res n).1/\os=(s.res n).2:=by
 unfold qX at hs
 split at hs
 ·obtain rfl:=sj hs
  obtain ⟨h1,h2,h3,h4⟩:=hp
  obtain ⟨_,_,_,_,k1⟩:=aC h1
  obtain ⟨_,_,_,_,k2⟩:=aC h2
  obtain ⟨_,_,_,_,k3⟩:=aC h3
  exact NZ h1 h2 h3 (h k1 k2 k3 h4)
 ·cases hs
theorem acG {c:Ce}(hc:qg c)(h:∀T',ax T T' []->K (.bool (ceB c)) T'):aj PG 52 [.agg c.row] T K:=by
 obtain ⟨r,a,hh⟩:=c
 obtain ⟨h1,h2,h3⟩:=hc
 dsimp only at h1 h2 h3
 have s4:a.fdiv (2 ^ min 4 IntKind.u16.bits)=((a.toNat / 16:Nat):Int):=by
  rw[show min 4 IntKind.u16.bits=4 from rfl,Int.fdiv_eq_ediv_of_nonneg _ (by decide)]
  omega
 have s8:a.fdiv (2 ^ min 8 IntKind.u16.bits)=((a.toNat / 256:Nat):Int):=by
  rw[show min 8 IntKind.u16.bits=8 from rfl,Int.fdiv_eq_ediv_of_nonneg _ (by decide)]
  omega
 have a8:IntKind.u16.wrap ((BitVec.ofInt IntKind.u16.bits a &&& BitVec.ofInt IntKind.u16.bits 8).toNat:Nat)=((a.toNat &&& 8:Nat):Int):=DL 8 (by decide) h2
 have a4:IntKind.u16.wrap ((BitVec.ofInt IntKind.u16.bits ((a.toNat / 16:Nat):Int) &&& BitVec.ofInt IntKind.u16.bits 15).toNat:Nat)=(((a.toNat / 16) &&& 15:Nat):Int):=DL (a:=((a.toNat / 16:Nat):Int)) 15 (by decide) (by omega)
 have a9:IntKind.u16.wrap ((BitVec.ofInt IntKind.u16.bits ((a.toNat / 256:Nat):Int) &&& BitVec.ofInt IntKind.u16.bits 15).toNat:Nat)=(((a.toNat / 256) &&& 15:Nat):Int):=DL (a:=((a.toNat / 256:Nat):Int)) 15 (by decide) (by omega)
 unfold Ce.row
 cases hm:vJ r with
 | false=>
  have e:ceB ⟨r,a,hh⟩=false:=by
   unfold vJ at hm
   rw[decide_eq_false_iff_not] at hm
   unfold ceB
   rw[decide_eq_false (by dsimp only;omega),Bool.false_and]
  rw[e] at h
  refine aj.aE nH Da (by simp[wW]) ?_
  unfold wW
  dsimp only
  simp -implicitDefEqProofs -dsimp only[ah,jc,fU,gG,hm,h1,vcS,↓vcQ,simprocAttr]
  exact h _ (ax.app _ _ _)
 | true=>
  have hm2:0<=r/\r<=1114111/\¬(55296<=r/\r<57344):=by unfold vJ at hm;simp only[decide_eq_true_eq] at hm;omega
  refine aj.aE nH Da (by simp[wW]) ?_
  unfold wW
  dsimp only
  simp -implicitDefEqProofs -dsimp only[ah,jc,fU,gG,hm,h1,show (4:Int).toNat=4 from rfl,show (8:Int).toNat=8 from rfl,s4,s8,a8,a4,a9,vcS,↓vcQ,simprocAttr]
  generalize hX:T++ [some (Ob.box [.int .i32 r,.int .u16 a,.int .u8 hh])]=X
  have kT:∀b,b=ceB ⟨r,a,hh⟩->K (.bool b) X:=fun b e=>by rw[e,<-hX];exact h _ (ax.app _ _ _)
  clear h s4 s8 a8 a4 a9
  have e1:(decide (r=0)=decide (hh=2))↔(r=0↔hh=2):=by rw[decide_eq_decide]
  simp only[e1]
  repeat' (first | intro _ | apply And.intro)
  all_goals
   refine kT _ ?_
   unfold ceB atB
   dsimp only
   rw[Bool.eq_iff_iff]
   simp only[Bool.and_eq_true,decide_eq_true_eq,Bool.false_eq_true,false_iff,true_iff]
   omega
def I0:List DV->Option aS
 | [.agg [.int .i32 r,.int .u16 a,.int .u8 h]]=>some ⟨qg ⟨r,a,h⟩,fun n=>(.bool (ceB ⟨r,a,h⟩),[])⟩
 | _=>none
theorem MH (r a h:Int):I0 [.agg [.int .i32 r,.int .u16 a,.int .u8 h]]=some ⟨qg ⟨r,a,h⟩,fun n=>(.bool (ceB ⟨r,a,h⟩),[])⟩:=ak _
theorem aav (args:List DV)(s:aS)(hs:I0 args=some s)(hp:s.pre):av PG 52 args fun n r os=>r=(s.res n).1/\os=(s.res n).2:=by
 unfold I0 at hs
 split at hs
 ·rename_i r a h
  obtain rfl:=sj hs
  exact av.GX (fun n T=>by simp -implicitDefEqProofs -dsimp only[vcS,↓vcQ,simprocAttr]) fun T=>acG (c:=⟨r,a,h⟩) hp fun T' _=>rfl
 ·cases hs
def TXc:FL:=[(52,.o I0)]
theorem Bc:FOk PG (tab TXc):=FOk.cons FOk.nil aav
theorem Vu (args:List DV):tab TXc 52 args=(I0 args).map .o:=ak _
theorem My (args:List DV):tab TXc 53 args=none:=ak _
theorem Wa {a:Int}(ha:0<=a/\a<=65535)(h:K (.bool (atB a)) T):aj PG 30 [.int .u16 a] T K:=by
 have e:ceB ⟨32,a,0⟩=atB a:=by
  unfold ceB
  rw[decide_eq_true (by dsimp only;omega),Bool.true_and]
 have hi:qg ⟨32,a,0⟩:=⟨by dsimp only;omega,ha,by dsimp only;omega⟩
 refine aj.aE Bc Gy (by simp[uO]) ?_
 unfold uO
 dsimp only
 simp -implicitDefEqProofs -dsimp only[ah,Vu,MH,e,hi,vcS,↓vcQ,simprocAttr]
 exact h
theorem Yq {L:List Ce}{rows aa y:Nat}(g:bU L rows aa)(hy:y<rows):cO L aa y=L↔fh (cM L aa y)=cM L aa y:=by
 refine ⟨fun e=>?_,fun e=>?_⟩
 ·have:=tF g hy hy
  rw[if_pos rfl,e] at this
  exact this.symm
 ·refine Ay (g.ej (fH g hy)) g fun y' hy'=>?_
  rw[tF g hy hy']
  split
  ·rename_i h;rw[e,h]
  ·rfl
def fZ:RC:=(.seq (SR [FA 166 15 1,LD 167 166] [1,3,4,167] (.cond (.t 167) (SR [FA 168 16 1,LD 169 168,MV 170 3,MV 171 4,OP 172 (.call 29 [.t 169,.t 170,.t 171]),MV 2 172] [2] .ret) .skip)) (SR [FA 173 16 1,LD 174 173,OP 175 (.len (.t 174)),BI 176 .eql 175 0,MV 177 176,FG 178 17 1 177 true,LG 179 178 177 true,OG 180 (.bin .eql (.t 179) (.c (.int .i64 0))) 177 true,OP 181 (.pick (.t 177) (.t 180) (.c (.bool false))),MV 182 181,FG 183 18 1 182 true,LG 184 183 182 true,OG 185 (.bin .eql (.t 184) (.c (.int .i64 0))) 182 true,OP 186 (.pick (.t 182) (.t 185) (.c (.bool false))),MV 2 186] [2] .ret))
theorem nT (E:Prg)(F:dW)(n:Nat)(Q:Exit->St->Prop)(st:St):RC.wp E F n fZ Q st=WpH E F n fZ Q st:=ak _
def gd:RC:=(.seq (SR [FA 135 7 1,LD 136 135,BI 137 .lss 136 0,MV 138 137,FG 139 8 1 138 false,LG 140 139 138 false,MG 141 3 138 false,OG 142 (.bin .geq (.t 140) (.t 141)) 138 false,OP 143 (.pick (.t 138) (.c (.bool true)) (.t 142)),MV 144 143,FG 145 7 1 144 false,LG 146 145 144 false,FG 147 8 1 144 false,LG 148 147 144 false,OG 149 (.bin .geq (.t 146) (.t 148)) 144 false,MG 150 149 144 false,MG 151 3 150 true,OG 152 (.bin .eql (.t 151) (.c (.int .i64 1))) 150 true,MG 153 152 150 true,FG 154 7 1 153 true,LG 155 154 153 true,OG 156 (.bin .eql (.t 155) (.c (.int .i64 0))) 153 true,OG 157 (.pick (.t 153) (.t 156) (.c (.bool false))) 150 true,MG 158 157 150 true,FG 159 8 1 158 true,LG 160 159 158 true,OG 161 (.bin .eql (.t 160) (.c (.int .i64 0))) 158 true,OG 162 (.pick (.t 158) (.t 161) (.c (.bool false))) 150 true,OG 163 (.un .not (.t 162)) 150 true,OG 164 (.pick (.t 150) (.t 163) (.c (.bool false))) 144 false,OP 165 (.pick (.t 144) (.c (.bool true)) (.t 164))] [1,3,4,165] (.cond (.t 165) (SR [MB 2 false] [2] .ret) .skip)) fZ)
theorem nU (E:Prg)(F:dW)(n:Nat)(Q:Exit->St->Prop)(st:St):RC.wp E F n gd Q st=WpH E F n gd Q st:=ak _
def gf:RC:=(.seq (SR [FA 101 5 1,LD 102 101,MV 103 102,FG 104 4 1 103 true,LG 105 104 103 true,MG 106 4 103 true,OG 107 (.bin .sub (.t 106) (.c (.int .i64 1))) 103 true,OG 108 (.bin .neq (.t 105) (.t 107)) 103 true,OP 109 (.pick (.t 103) (.t 108) (.c (.bool false))),MV 110 109,FG 111 6 1 110 false,LG 112 111 110 false,OG 113 (.call 30 [.t 112]) 110 false,OG 114 (.un .not (.t 113)) 110 false,OP 115 (.pick (.t 110) (.c (.bool true)) (.t 114)),MV 116 115,FG 117 12 1 116 false,LG 118 117 116 false,OG 119 (.call 30 [.t 118]) 116 false,OG 120 (.un .not (.t 119)) 116 false,OP 121 (.pick (.t 116) (.c (.bool true)) (.t 120)),MV 122 121,FG 123 9 1 122 false,LG 124 123 122 false,OG 125 (.len (.t 124)) 122 false,MG 126 4 122 false,OG 127 (.bin .neq (.t 125) (.t 126)) 122 false,OP 128 (.pick (.t 122) (.c (.bool true)) (.t 127)),MV 129 128,FG 130 19 1 129 false,OG 131 (.load true 5 (.t 130)) 129 false,OG 132 (.call 31 [.t 131]) 129 false,OG 133 (.un .not (.t 132)) 129 false,OP 134 (.pick (.t 129) (.c (.bool true)) (.t 133))] [1,3,4,134] (.cond (.t 134) (SR [MB 2 false] [2] .ret) .skip)) gd)
theorem wU (E:Prg)(F:dW)(n:Nat)(Q:Exit->St->Prop)(st:St):RC.wp E F n gf Q st=WpH E F n gf Q st:=ak _
def iU:RC:=(.seq (SR [FA 37 3 1,LD 38 37,BI 39 .lss 38 0,MV 40 39,FG 41 3 1 40 false,LG 42 41 40 false,MG 43 3 40 false,OG 44 (.bin .geq (.t 42) (.t 43)) 40 false,OP 45 (.pick (.t 40) (.c (.bool true)) (.t 44)),MV 46 45,FG 47 4 1 46 false,LG 48 47 46 false,OG 49 (.bin .lss (.t 48) (.c (.int .i64 0))) 46 false,OP 50 (.pick (.t 46) (.c (.bool true)) (.t 49)),MV 51 50,FG 52 4 1 51 false,LG 53 52 51 false,MG 54 4 51 false,OG 55 (.bin .geq (.t 53) (.t 54)) 51 false,OP 56 (.pick (.t 51) (.c (.bool true)) (.t 55)),MV 57 56,FG 58 10 1 57 false,LG 59 58 57 false,OG 60 (.bin .lss (.t 59) (.c (.int .i64 0))) 57 false,OP 61 (.pick (.t 57) (.c (.bool true)) (.t 60)),MV 62 61,FG 63 10 1 62 false,LG 64 63 62 false,MG 65 3 62 false,OG 66 (.bin .geq (.t 64) (.t 65)) 62 false,OP 67 (.pick (.t 62) (.c (.bool true)) (.t 66)),MV 68 67,FG 69 11 1 68 false,LG 70 69 68 false,OG 71 (.bin .lss (.t 70) (.c (.int .i64 0))) 68 false,OP 72 (.pick (.t 68) (.c (.bool true)) (.t 71)),MV 73 72,FG 74 11 1 73 false,LG 75 74 73 false,MG 76 4 73 false,OG 77 (.bin .geq (.t 75) (.t 76)) 73 false,OP 78 (.pick (.t 73) (.c (.bool true)) (.t 77)),MV 79 78,FG 80 17 1 79 false,LG 81 80 79 false,OG 82 (.bin .lss (.t 81) (.c (.int .i64 0))) 79 false,OP 83 (.pick (.t 79) (.c (.bool true)) (.t 82)),MV 84 83,FG 85 17 1 84 false,LG 86 85 84 false,MG 87 3 84 false,OG 88 (.bin .geq (.t 86) (.t 87)) 84 false,OP 89 (.pick (.t 84) (.c (.bool true)) (.t 88)),MV 90 89,FG 91 18 1 90 false,LG 92 91 90 false,OG 93 (.bin .lss (.t 92) (.c (.int .i64 0))) 90 false,OP 94 (.pick (.t 90) (.c (.bool true)) (.t 93)),MV 95 94,FG 96 18 1 95 false,LG 97 96 95 false,MG 98 4 95 false,OG 99 (.bin .geq (.t 97) (.t 98)) 95 false,OP 100 (.pick (.t 95) (.c (.bool true)) (.t 99))] [1,3,4,100] (.cond (.t 100) (SR [MB 2 false] [2] .ret) .skip)) gf)
theorem yF (E:Prg)(F:dW)(n:Nat)(Q:Exit->St->Prop)(st:St):RC.wp E F n iU Q st=WpH E F n iU Q st:=ak _
def rL:RFn:=⟨1,187,(SR [OP 1 (.box 24 (.t 0)),MB 2 false] [1] (.seq (SR [FA 5 0 1,LD 6 5,BI 7 .lss 6 1,MV 8 7,FG 9 0 1 8 false,LG 10 9 8 false,OG 11 (.bin .gtr (.t 10) (.c (.int .i64 1000))) 8 false,OP 12 (.pick (.t 8) (.c (.bool true)) (.t 11)),MV 13 12,FG 14 1 1 13 false,LG 15 14 13 false,OG 16 (.bin .lss (.t 15) (.c (.int .i64 1))) 13 false,OP 17 (.pick (.t 13) (.c (.bool true)) (.t 16)),MV 18 17,FG 19 1 1 18 false,LG 20 19 18 false,OG 21 (.bin .gtr (.t 20) (.c (.int .i64 1000))) 18 false,OP 22 (.pick (.t 18) (.c (.bool true)) (.t 21)),MV 23 22,FG 24 2 1 23 false,LG 25 24 23 false,FG 26 0 1 23 false,LG 27 26 23 false,FG 28 1 1 23 false,LG 29 28 23 false,OG 30 (.call 29 [.t 25,.t 27,.t 29]) 23 false,OG 31 (.un .not (.t 30)) 23 false,OP 32 (.pick (.t 23) (.c (.bool true)) (.t 31))] [1,32] (.cond (.t 32) (SR [MB 2 false] [2] .ret) .skip)) (.seq (.cJ (.take (FA 33 0 1) [] (.take (LD 34 33) [] (.take (FA 35 1 1) [] (.take (LD 36 35) [] (.take (MV 3 34) [] (.take (MV 4 36) [] .done)))))) 0 [1,3,4]) iU))),[.t 2]⟩
theorem Eb:aK PG.P (aA PG.P 11 rL) 11=some rL:=by kernel_rfl
theorem MN {k:SK}{L:List Ce}{rows aa:Nat}(g:bU L rows aa)(hc:AlC L)(w:WhG L rows aa)(h:∀T',ax T T' []->K (.bool true) T') :
  aj PG 29 [.sl 3 (aq L) k,.int .i64 rows,.int .i64 aa] T K:=by
 have hr:=g.r
 have hcl:=g.c
 have hl:=g.lim.1
 have hm:rows*aa<=1000*1000:=Nat.mul_le_mul hr.2 hcl.2
 have e:L.length=rows*aa:=g.len
 have hp:(rows:Int)*aa=((rows*aa:Nat):Int):=by simp
 have hw:IntKind.i64.wrap ((rows:Int)*aa)=(L.length:Int):=by rw[hp,aO (by omega) (by omega),e]
 refine aj.aE Bc Ee (by simp[rN]) ?_
 unfold rN
 dsimp only
 simp -implicitDefEqProofs -dsimp only[ah,az,hw,vcS,↓vcQ,simprocAttr]
 refine bk.inv Bc (S:=fun i:Nat=>⟨[(0,.sl 3 (aq L) k),(1,.int .i64 rows),(2,.int .i64 aa),(7,.int .i64 i)],T⟩)
  (I:=fun i=>i<=L.length) (μ:=fun i=>L.length-i) 0 (Nat.zero_le _) ?_ ?_
 ·simp -implicitDefEqProofs -dsimp only[an,vcS,↓vcQ,simprocAttr]
 ·intro i i1
  unfold uN
  have w1:IntKind.i64.wrap ((i:Int)+1)=((i+1:Nat):Int):=by rw[aO (by omega) (by omega)];omega
  rcases Nat.lt_or_ge i L.length with hlt | hge
  ·have hii:(i:Int)<L.length:=by omega
   have i0:(0:Int)<=i:=by omega
   have hg:=bf hlt
   obtain ⟨hci,hb⟩:=hc.getD i
   have aev:(⟨(L.getD i aM).r,(L.getD i aM).a,(L.getD i aM).h⟩:Ce)=L.getD i aM:=rfl
   simp -implicitDefEqProofs -dsimp only[ah,Vu,MH,az,hii,i0,hg,aev,hci,hb,Nat.zero_add,w1,an,vcS,↓vcQ,simprocAttr]
   exact ⟨i+1,rfl,hlt,by omega⟩
  ·have hii:¬(i:Int)<L.length:=by omega
   simp -implicitDefEqProofs -dsimp only[ah,az,hii,an,vcS,↓vcQ,simprocAttr]
   refine bk.inv Bc (S:=fun s:Nat × ay=>⟨[(0,.sl 3 (aq L) k),(1,.int .i64 rows),(2,.int .i64 aa),(8,.int .i64 s.1)],s.2⟩)
    (I:=fun s=>s.1<=rows/\ax T s.2 []) (μ:=fun s=>rows-s.1) (0,T) ⟨Nat.zero_le _,ax.refl _ _⟩ ?_ ?_
   ·simp -implicitDefEqProofs -dsimp only[an,vcS,↓vcQ,simprocAttr]
   ·intro ⟨y,A⟩ ⟨y1,y2⟩
    dsimp only at y1 y2 ⊢
    unfold uL
    have wy:IntKind.i64.wrap ((y:Int)+1)=((y+1:Nat):Int):=by rw[aO (by omega) (by omega)];omega
    rcases Nat.lt_or_ge y rows with hy | hy
    ·have hyy:(y:Int)<rows:=by omega
     simp -implicitDefEqProofs -dsimp only[ah,My,hyy,vcS,↓vcQ,simprocAttr]
     refine Wb rfl g hy fun T1 k1=>?_
     rw[(Yq g hy).2 (w y hy)]
     have hrow:=cY (aa:=aa) hy
     have ys:=bx y aa
     obtain ⟨R,eR⟩:∃R,R=y*aa:=⟨_,rfl⟩
     have wR:IntKind.i64.wrap ((y:Int)*aa)=(R:Int):=by
      have:(y:Int)*aa=(R:Int):=by rw[eR];simp
      rw[this];exact aO (by omega) (by omega)
     simp -implicitDefEqProofs -dsimp only[ah,My,hyy,vcS,↓vcQ,simprocAttr]
     refine bk.inv Bc (S:=fun x:Nat=>⟨[(0,.sl 3 (aq L) k),(1,.int .i64 rows),(2,.int .i64 aa),(8,.int .i64 y),(9,.sl 3 (aq L) .any),(10,.int .i64 x)],T1⟩)
      (I:=fun x=>x<=aa) (μ:=fun x=>aa-x) 0 (Nat.zero_le _) ?_ ?_
     ·simp -implicitDefEqProofs -dsimp only[an,vcS,↓vcQ,simprocAttr]
     ·intro x x1
      unfold uM
      rcases Nat.lt_or_ge x aa with hx | hx
      ·have hxx:(x:Int)<aa:=by omega
       have wx:IntKind.i64.wrap ((x:Int)+1)=((x+1:Nat):Int):=by rw[aO (by omega) (by omega)];omega
       have wS:IntKind.i64.wrap ((R:Int)+x)=((R+x:Nat):Int):=by rw[aO (by omega) (by omega)];omega
       have b0:(0:Int)<=((R+x:Nat):Int):=by omega
       have b1:((R+x:Nat):Int)<L.length:=by omega
       have g1:=bf (L:=L) (i:=R+x) (by omega)
       simp -implicitDefEqProofs -dsimp only[ah,My,az,hxx,wR,wS,b0,b1,g1,Nat.zero_add,wx,an,vcS,↓vcQ,simprocAttr]
       exact ⟨x+1,rfl,hx,by omega⟩
      ·have hxx:¬(x:Int)<aa:=by omega
       simp -implicitDefEqProofs -dsimp only[ah,My,hxx,wy,an,vcS,↓vcQ,simprocAttr]
       exact ⟨(y+1,T1),⟨rfl,aH _⟩,⟨hy,y2.new k1 (by simp)⟩,by dsimp only;omega⟩
    ·have hyy:¬(y:Int)<rows:=by omega
     simp -implicitDefEqProofs -dsimp only[ah,hyy,an,vcS,↓vcQ,simprocAttr]
     exact gI y2 fun k=>h _ k
def Yw (sz:Nat)(rows:List (List DV))(r c:Int):Prop:=sz=3/\∃(L:List Ce) (a b:Nat),rows=aq L/\r=a/\c=b/\bU L a b/\AlC L/\WhG L a b
def oB:List DV->Option aS
 | [.sl sz rows k,.int .i64 r,.int .i64 c]=>some ⟨Yw sz rows r c,fun n=>(.bool true,[])⟩
 | _=>none
theorem gu (sz:Nat)(rows:List (List DV))(k:SK)(r c:Int):oB [.sl sz rows k,.int .i64 r,.int .i64 c]=some ⟨Yw sz rows r c,fun n=>(.bool true,[])⟩:=ak _
theorem Jc (args:List DV)(s:aS)(hs:oB args=some s)(hp:s.pre):av PG 29 args fun n r os=>r=(s.res n).1/\os=(s.res n).2:=by
 unfold oB at hs
 split at hs
 ·obtain rfl:=sj hs
  obtain ⟨rfl,L,a,b,rfl,rfl,rfl,g,h1,h2⟩:=hp
  exact av.GX (fun n T=>by simp -implicitDefEqProofs -dsimp only[vcS,↓vcQ,simprocAttr]) fun T=>MN g h1 h2 fun T' _=>rfl
 ·cases hs
def wv:List DV->Option aS
 | [.int .u16 a]=>some ⟨0<=a/\a<=65535,fun n=>(.bool (atB a),[])⟩
 | _=>none
theorem jz (a:Int):wv [.int .u16 a]=some ⟨0<=a/\a<=65535,fun n=>(.bool (atB a),[])⟩:=ak _
theorem PW (args:List DV)(s:aS)(hs:wv args=some s)(hp:s.pre):av PG 30 args fun n r os=>r=(s.res n).1/\os=(s.res n).2:=by
 unfold wv at hs
 split at hs
 ·obtain rfl:=sj hs
  exact av.GX (fun n T=>by simp -implicitDefEqProofs -dsimp only[vcS,↓vcQ,simprocAttr]) fun T=>Wa hp rfl
 ·cases hs
def TYr:FL:=(29,.o oB)::(30,.o wv)::[(31,.o qX)]
theorem acd:FOk PG (tab TYr):=FOk.cons (FOk.cons (FOk.cons FOk.nil (RL fun h1 h2 h3 h4=>RQ h1 h2 h3 h4)) PW) Jc
theorem yw (args:List DV):tab TYr 29 args=(oB args).map .o:=ak _
theorem yx (args:List DV):tab TYr 30 args=(wv args).map .o:=ak _
theorem yu (args:List DV):tab TYr 31 args=(qX args).map .o:=ak _
theorem DU (hF:ScF x)(sv:ScV x.1 x.2 z1 z2 z3 m pr d1 d2 d3)(hQ:Q .ret ⟨[(2,.bool true)],T++ [some (.box (scD x.1 z1 z2 z3 k1 k2 k3 m pr d1 d2 d3))]⟩):WpH PG (tab TYr) 187 fZ Q ⟨[(1,.ptr T.length 0 0),(3,.int .i64 x.1.rows),(4,.int .i64 x.1.aa),(165,.bool false)],T++ [some (.box (scD x.1 z1 z2 z3 k1 k2 k3 m pr d1 d2 d3))]⟩:=by
 obtain ⟨o1,o2,o3⟩:=sv.pa.one
 have ok:=hF.ok
 have hr:=ok.g.r
 have hc:=ok.g.c
 unfold scD at hQ ⊢
 cases ha:x.1.alt with
 | true=>
  have hz:z3=3:=by
   rcases sv.z3 with e | e
   ·exact e
   ·have:=(ok.alt ha).lim.2;rw[e] at this;simp at this
  have c3:Yw z3 (aq x.1.other) x.1.rows x.1.aa:=⟨hz,_,_,_,rfl,rfl,rfl,ok.alt ha,hF.c.o,hF.w.o ha⟩
  rw[ha] at hQ
  unfold WpH fZ
  simp -implicitDefEqProofs -dsimp only[ah,yw,yx,yu,gu,jz,iE,o1,o2,o3,c3,vcS,↓vcQ,simprocAttr]
  exact hQ
 | false=>
  obtain ⟨n1,n2,n3⟩:=ok.non ha
  have e2:(x.1.oy:Int)=0:=by omega
  have e3:(x.1.ox:Int)=0:=by omega
  rw[ha] at hQ
  unfold WpH fZ
  simp -implicitDefEqProofs -dsimp only[ah,yw,yx,yu,gu,jz,iE,o1,o2,o3,az,n1,List.length_nil,Int.natCast_zero,eq_true e2,eq_true e3,vcS,↓vcQ,simprocAttr]
  rw[n1] at hQ;exact hQ
theorem DW (hF:ScF x)(sv:ScV x.1 x.2 z1 z2 z3 m pr d1 d2 d3)(hQ:Q .ret ⟨[(2,.bool true)],T++ [some (.box (scD x.1 z1 z2 z3 k1 k2 k3 m pr d1 d2 d3))]⟩):WpH PG (tab TYr) 187 gd Q ⟨[(1,.ptr T.length 0 0),(3,.int .i64 x.1.rows),(4,.int .i64 x.1.aa),(134,.bool false)],T++ [some (.box (scD x.1 z1 z2 z3 k1 k2 k3 m pr d1 d2 d3))]⟩:=by
 obtain ⟨o1,o2,o3⟩:=sv.pa.one
 have ok:=hF.ok
 have hr:=ok.g.r
 have hc:=ok.g.c
 have fin:=fun {Q':Exit->St->Prop} hh=>DU (T:=T) (k1:=k1) (k2:=k2) (k3:=k3) (Q:=Q') hF sv hh
 have tb:=ok.tb
 have bb:=ok.b
 have q1:¬(x.1.top:Int)<0:=by omega
 have q2:¬(x.1.rows:Int)<=x.1.bot:=by omega
 unfold scD at fin hQ ⊢
 rcases Decidable.em ((x.1.bot:Int)<=x.1.top) with q3 | q3
 ·have rg:=ok.rg
  have q4:(x.1.rows:Int)=1:=by omega
  have q5:(x.1.top:Int)=0:=by omega
  have q6:(x.1.bot:Int)=0:=by omega
  unfold WpH gd
  simp -implicitDefEqProofs -dsimp only[ah,yw,yx,yu,gu,jz,iE,o1,o2,o3,eq_false q1,eq_false q2,eq_true q3,eq_true q4,eq_true q5,eq_true q6,↓nT,vcS,↓vcQ,simprocAttr]
  exact fin hQ
 ·skip
  unfold WpH gd
  simp -implicitDefEqProofs -dsimp only[ah,yw,yx,yu,gu,jz,iE,o1,o2,o3,eq_false q1,eq_false q2,eq_false q3,↓nT,vcS,↓vcQ,simprocAttr]
  exact fin hQ
theorem DX (hF:ScF x)(sv:ScV x.1 x.2 z1 z2 z3 m pr d1 d2 d3)(hQ:Q .ret ⟨[(2,.bool true)],T++ [some (.box (scD x.1 z1 z2 z3 k1 k2 k3 m pr d1 d2 d3))]⟩):WpH PG (tab TYr) 187 gf Q ⟨[(1,.ptr T.length 0 0),(3,.int .i64 x.1.rows),(4,.int .i64 x.1.aa),(100,.bool false)],T++ [some (.box (scD x.1 z1 z2 z3 k1 k2 k3 m pr d1 d2 d3))]⟩:=by
 obtain ⟨o1,o2,o3⟩:=sv.pa.one
 have ok:=hF.ok
 have hr:=ok.g.r
 have hc:=ok.g.c
 have fin:=fun {Q':Exit->St->Prop} hh=>DW (T:=T) (k1:=k1) (k2:=k2) (k3:=k3) (Q:=Q') hF sv hh
 have w1:IntKind.i64.wrap ((x.1.aa:Int)-1)=(x.1.aa:Int)-1:=aO (by omega) (by omega)
 have ht:((x.1.aP.length:Nat):Int)=x.1.aa:=by have:=ok.aP;omega
 have a1:=ok.at'
 have a2:=ok.sat
 have i1:=sv.pa.i1
 have i2:=sv.pa.i2
 have i3:=sv.pa.i3
 have e1:=sv.pa.e1
 have e2:=sv.pa.e2
 have e3:=sv.pa.e3
 have hpe:(⟨m,pr,x.2.P,x.2.I,x.2.U⟩:Pa)=x.2:=by rw[sv.pa.m,sv.pa.pr]
 obtain ⟨_,_,_,l1,l2,l3,_⟩:=hF.pk
 have ha:=hF.c.ab
 have hb:=hF.c.sb
 have hp:=(RB _).2 hF.rt
 have wr:=ok.wr
 unfold scD at fin hQ ⊢
 cases hw:x.1.wrap with
 | false=>
  rw[hw] at fin hQ
  unfold WpH gf
  simp -implicitDefEqProofs -dsimp only[ah,yw,yx,yu,gu,jz,iE,o1,o2,o3,w1,aY,eq_true ht,a1,a2,i1,i2,i3,e1,e2,e3,hpe,l1,l2,l3,ha,hb,hp,↓nU,vcS,↓vcQ,simprocAttr]
  exact fin hQ
 | true=>
  have hx:(x.1.x:Int)=(x.1.aa:Int)-1:=by have:=wr hw;omega
  rw[hw] at fin hQ
  unfold WpH gf
  simp -implicitDefEqProofs -dsimp only[ah,yw,yx,yu,gu,jz,iE,o1,o2,o3,w1,eq_true hx,aY,eq_true ht,a1,a2,i1,i2,i3,e1,e2,e3,hpe,l1,l2,l3,ha,hb,hp,↓nU,vcS,↓vcQ,simprocAttr]
  exact fin hQ
theorem FP (hF:ScF x)(sv:ScV x.1 x.2 z1 z2 z3 m pr d1 d2 d3)(hQ:Q .ret ⟨[(2,.bool true)],T++ [some (.box (scD x.1 z1 z2 z3 k1 k2 k3 m pr d1 d2 d3))]⟩):WpH PG (tab TYr) 187 iU Q ⟨[(1,.ptr T.length 0 0),(3,.int .i64 x.1.rows),(4,.int .i64 x.1.aa)],T++ [some (.box (scD x.1 z1 z2 z3 k1 k2 k3 m pr d1 d2 d3))]⟩:=by
 obtain ⟨o1,o2,o3⟩:=sv.pa.one
 have ok:=hF.ok
 have hr:=ok.g.r
 have hc:=ok.g.c
 have fin:=fun {Q':Exit->St->Prop} hh=>DX (T:=T) (k1:=k1) (k2:=k2) (k3:=k3) (Q:=Q') hF sv hh
 have y1:=ok.y
 have x1:=ok.x
 have y2:=ok.sy
 have x2:=ok.sx
 have y3:=ok.oy
 have x3:=ok.ox
 have f1:¬(x.1.y:Int)<0:=by omega
 have f2:¬(x.1.rows:Int)<=x.1.y:=by omega
 have f3:¬(x.1.x:Int)<0:=by omega
 have f4:¬(x.1.aa:Int)<=x.1.x:=by omega
 have f5:¬(x.1.sy:Int)<0:=by omega
 have f6:¬(x.1.rows:Int)<=x.1.sy:=by omega
 have f7:¬(x.1.sx:Int)<0:=by omega
 have f8:¬(x.1.aa:Int)<=x.1.sx:=by omega
 have f9:¬(x.1.oy:Int)<0:=by omega
 have g1:¬(x.1.rows:Int)<=x.1.oy:=by omega
 have g2:¬(x.1.ox:Int)<0:=by omega
 have g3:¬(x.1.aa:Int)<=x.1.ox:=by omega
 unfold scD at fin hQ ⊢
 unfold WpH iU
 simp -implicitDefEqProofs -dsimp only[ah,yw,yx,yu,gu,jz,iE,o1,o2,o3,eq_false f1,eq_false f2,eq_false f3,eq_false f4,eq_false f5,eq_false f6,eq_false f7,eq_false f8,eq_false f9,eq_false g1,eq_false g2,eq_false g3,↓wU,vcS,↓vcQ,simprocAttr]
 exact fin hQ
theorem MJ {v:DV}(hF:ScF x)(hv:aJ x.1 x.2 v)(h:∀T',ax T T' []->K (.bool true) T'):aj PG 11 [v] T K:=by
 obtain ⟨z1,z2,z3,k1,k2,k3,m,pr,d1,d2,d3,sv,rfl⟩:=hv
 obtain ⟨o1,o2,o3⟩:=sv.pa.one
 have ok:=hF.ok
 have hr:=ok.g.r
 have hc:=ok.g.c
 have c1:Yw z1 (aq x.1.cells) x.1.rows x.1.aa:=⟨sv.z1,_,_,_,rfl,rfl,rfl,ok.g,hF.c.c,hF.w.c⟩
 have r1:¬(x.1.rows:Int)<1:=by omega
 have r2:¬(1000:Int)<x.1.rows:=by omega
 have r3:¬(x.1.aa:Int)<1:=by omega
 have r4:¬(1000:Int)<x.1.aa:=by omega
 unfold scD
 refine aj.aE acd Eb (by simp[rL]) ?_
 unfold rL
 dsimp only
 simp -implicitDefEqProofs -dsimp only[ah,yw,yx,yu,gu,jz,iE,o1,o2,o3,c1,eq_false r1,eq_false r2,eq_false r3,eq_false r4,↓yF,vcS,↓vcQ,simprocAttr]
 refine FP (k1:=k1) (k2:=k2) (k3:=k3) hF sv ?_
 simp -implicitDefEqProofs -dsimp only[ah,vcS,↓vcQ,simprocAttr]
 exact h _ (ax.app _ _ _)
theorem wL {v:DV}(hF:ScF x)(hv:aJ x.1 x.2 v)(h:∀T',ax T T' []->K (.bool true) T'):aj PG 10 [v] T K:=
 Rg hF.ok hF.pk hv { ci:=fun c hc=>(hF.c.c c hc).1,oi:=fun c hc=>(hF.c.o c hc).1,cb:=Ms hF.ok.g hF.w.c hF.c.c,ob:=fun ha=>Ms (hF.ok.alt ha) (hF.w.o ha) hF.c.o,ab:=hF.c.ab,sb:=hF.c.sb,pb:=(RB _).2 hF.rt} h
theorem Qg (args:List DV)(s:aS)(hs:l5 args=some s)(hp:s.pre):av PG 14 args fun n r os=>r=(s.res n).1/\os=(s.res n).2:=by
 unfold l5 at hs
 split at hs
 ·rename_i v a
  obtain rfl:=sj hs
  obtain ⟨⟨x,hF,h1⟩,h2,h3⟩:=hp
  obtain ⟨sz,k,e,h4,h5⟩:=aC h2
  dsimp only
  rw[yX hF h1]
  refine av.aae (Gj _) fun T=>?_
  have:=LN (T:=T) (sk:=k) (K:=fun r T'=>wkT r (zL ((aG a).foldl eJ x))) hF h1 h4 h5 h3 fun T' v' _ hv=>L4 hv
  rw[<-e] at this
  exact this
 ·cases hs
theorem yW (x : Sc × Pa) : zL x = .agg [.int .i64 x.1.rows, .int .i64 x.1.aa, .sl 3 (aq x.1.cells) .any, .int .i64 x.1.y, .int .i64 x.1.x, .bool x.1.wrap, .int .u16 x.1.attr, .int .i64 x.1.top, .int .i64 x.1.bot, .sl 1 (bg x.1.aP) .any,
   .int .i64 x.1.sy, .int .i64 x.1.sx, .int .u16 x.1.eg, .bool x.1.auto, .bool x.1.shown, .bool x.1.alt, .sl 3 (aq x.1.other) .any, .int .i64 x.1.oy, .int .i64 x.1.ox, .int .i64 x.2.m, .int .u8 x.2.pr, .sl 1 (af .i64 x.2.P) .any, .sl 1 (af .u8 x.2.I) .any, .sl 1 (af .u8 x.2.U) .any] := ak _
def TFd:FL:=(13,.o l5)::(14,.o l5)::TSb
theorem Be:FOk PG (tab TFd):=FOk.cons (FOk.cons Vv Qg) Ri
theorem VE (args:List DV):tab TFd 13 args=(l5 args).map .o:=ak _
theorem aap (args:List DV):tab TFd 14 args=(l5 args).map .o:=ak _
theorem aaq (args:List DV):tab TFd 12 args=(PR args).map .o:=ak _
theorem qS (args:List DV):tab TFd 8 args=none:=ak _
theorem acn (args:List DV):tab TFd 9 args=none:=ak _
theorem Ln (args:List DV):tab TFd 15 args=none:=ak _
theorem Fp (args:List DV):tab TFd 10 args=none:=ak _
theorem VD (args:List DV):tab TFd 11 args=none:=ak _
theorem acm (args:List DV):tab TFd 16 args=none:=ak _
end
end Go.Proofs.YtjmnbpilnneonaaGreatDoor
