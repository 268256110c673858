/- Texts H4 in one. -/
import Derived.Test.YtjmnbpilnneonaaGreatDoorN3
import Derived.Test.YtjmnbpilnneonaaGreatDoorN7
set_option linter.unusedVariables false
set_option linter.unusedSimpArgs false
set_option maxRecDepth 10000
namespace Go.Proofs.YtjmnbpilnneonaaGreatDoor
open Go.RowKit
variable {T0 T:ay}{o:Nat}{s:Sc}{p:Pa}{K:DV->ay->Prop}
noncomputable def dX:RFn:=⟨2,190,(SR [MV 4 1] [0,4] (.blk 0 (SR [OP 6 (.bin .eql (.t 4) (.c (.int .u8 55))),MV 5 6] [0,4,5] (.cond (.t 5) (.cJ (.take (MV 7 0) [] (.take (MV 8 0) [] (.take (MV 9 0) [] (.take (MV 10 0) [] (.take (OP 11 (.aF (.t 10))) [] (.take (FA 12 0 11) [] (.take (FA 13 3 12) [] (.take (LD 14 13) [] (.take (MV 15 0) [] (.take (OP 16 (.aF (.t 15))) [] (.take (FA 17 0 16) [] (.take (FA 18 4 17) [] (.take (LD 19 18) [] (.take (MV 20 0) [] (.take (OP 21 (.aF (.t 20))) [] (.take (FA 22 0 21) [] (.take (FA 23 6 22) [] (.take (LD 24 23) [] (.take (OP 25 (.aF (.t 7))) [] (.take (FA 26 0 25) [] (.take (FA 27 10 26) [] (.op (SA 1 27 14) (.take (OP 28 (.aF (.t 8))) [] (.take (FA 29 0 28) [] (.take (FA 30 11 29) [] (.op (SA 1 30 19) (.take (OP 31 (.aF (.t 9))) [] (.take (FA 32 0 31) [] (.take (FA 33 12 32) [] (.op (SA 1 33 24) .done)))))))))))))))))))))))))))))) 0 []) (SR [OP 35 (.bin .eql (.t 4) (.c (.int .u8 56))),MV 34 35] [0,4,34] (.cond (.t 34) (.cJ (.take (MV 36 0) [] (.take (MV 37 0) [] (.take (MV 38 0) [] (.take (MV 39 0) [] (.take (MV 40 0) [] (.take (OP 41 (.aF (.t 40))) [] (.take (FA 42 0 41) [] (.take (FA 43 10 42) [] (.take (LD 44 43) [] (.take (MV 45 0) [] (.take (OP 46 (.aF (.t 45))) [] (.take (FA 47 0 46) [] (.take (FA 48 11 47) [] (.take (LD 49 48) [] (.take (MV 50 0) [] (.take (OP 51 (.aF (.t 50))) [] (.take (FA 52 0 51) [] (.take (FA 53 12 52) [] (.take (LD 54 53) [] (.take (OP 55 (.aF (.t 36))) [] (.take (FA 56 0 55) [] (.take (FA 57 3 56) [] (.op (SA 1 57 44) (.take (OP 58 (.aF (.t 37))) [] (.take (FA 59 0 58) [] (.take (FA 60 4 59) [] (.op (SA 1 60 49) (.take (OP 61 (.aF (.t 38))) [] (.take (FA 62 0 61) [] (.take (FA 63 6 62) [] (.op (SA 1 63 54) (.take (OP 64 (.aF (.t 39))) [] (.take (FA 65 0 64) [] (.take (FA 66 5 65) [] (.op (NP (.store 1 (.t 66) (.c (.bool false)))) .done))))))))))))))))))))))))))))))))))) 0 []) (SR [OP 68 (.bin .eql (.t 4) (.c (.int .u8 68))),MV 67 68] [0,4,67] (.cond (.t 67) (.reg [MV 69 0,OP 70 (.call 97 [.t 69])] 0 []) (SR [OP 72 (.bin .eql (.t 4) (.c (.int .u8 69))),MV 71 72] [0,4,71] (.cond (.t 71) (SR [MV 73 0,OP 74 (.call 97 [.t 73])] [0] (.reg [MV 75 0,OP 76 (.aF (.t 75)),FA 77 0 76,FA 78 4 77,NP (.store 1 (.t 78) (.c (.int .i64 0)))] 0 [])) (SR [OP 80 (.bin .eql (.t 4) (.c (.int .u8 77))),MV 79 80] [0,4,79] (.cond (.t 79) (SR [MV 81 0,OP 82 (.aF (.t 81)),FA 83 0 82,FA 84 5 83,NP (.store 1 (.t 84) (.c (.bool false)))] [0] (.blk 1 (.seq (.cJ (.take (MV 86 0) [] (.take (OP 87 (.aF (.t 86))) [] (.take (FA 88 0 87) [] (.take (FA 89 3 88) [] (.take (LD 90 89) [] (.take (MV 91 0) [] (.take (OP 92 (.aF (.t 91))) [] (.take (FA 93 0 92) [] (.take (FA 94 7 93) [] (.take (LD 95 94) [] (.take (BT 96 .eql 90 95) [] (.take (MV 85 96) [] .done)))))))))))) 0 [0,85]) (.cond (.t 85) (.cJ (.take (MV 97 0) [] (.take (MV 98 0) [] (.take (OP 99 (.aF (.t 98))) [] (.take (FA 100 0 99) [] (.take (FA 101 2 100) [] (.take (LD 102 101) [] (.take (MV 103 0) [] (.take (OP 104 (.aF (.t 103))) [] (.take (FA 105 0 104) [] (.take (FA 106 1 105) [] (.take (LD 107 106) [] (.take (MV 108 0) [] (.take (OP 109 (.aF (.t 108))) [] (.take (FA 110 0 109) [] (.take (FA 111 7 110) [] (.take (LD 112 111) [] (.take (MV 113 0) [] (.take (OP 114 (.aF (.t 113))) [] (.take (FA 115 0 114) [] (.take (FA 116 8 115) [] (.take (LD 117 116) [] (.mid (OP 118 (.call 98 [.t 102,.t 107,.t 112,.t 117,.c (.int .i64 1)])) (.take (OP 119 (.aF (.t 97))) [] (.take (FA 120 0 119) [] (.take (FA 121 2 120) [] (.op (SA 1 121 118) .done)))))))))))))))))))))))))) 0 []) (SR [MV 123 0,OP 124 (.aF (.t 123)),FA 125 0 124,FA 126 3 125,LD 127 126,BI 128 .gtr 127 0,MV 122 128] [0,122] (.cond (.t 122) (.reg [MV 129 0,OP 130 (.aF (.t 129)),FA 131 0 130,FA 132 3 131,LD 133 132,BI 134 .sub 133 1,OP 135 (.aF (.t 129)),FA 136 0 135,FA 137 3 136,SA 1 137 134] 0 []) .skip)))))) (SR [OP 139 (.bin .eql (.t 4) (.c (.int .u8 72))),MV 138 139] [0,4,138] (.cond (.t 138) (.seq (.cJ (.take (MV 140 0) [] (.take (OP 141 (.aF (.t 140))) [] (.take (FA 142 0 141) [] (.take (FA 143 4 142) [] (.take (LD 144 143) [] (.take (BI 145 .geq 144 0) [] (.take (MV 146 145) [] (.take (MG 147 0 146 true) [] (.take (OG 148 (.aF (.t 147)) 146 true) [] (.take (FG 149 0 148 146 true) [] (.take (FG 150 4 149 146 true) [] (.take (LG 151 150 146 true) [] (.take (MG 152 0 146 true) [] (.take (OG 153 (.aF (.t 152)) 146 true) [] (.take (FG 154 0 153 146 true) [] (.take (FG 155 9 154 146 true) [] (.take (LG 156 155 146 true) [] (.take (OG 157 (.len (.t 156)) 146 true) [] (.take (OG 158 (.bin .lss (.t 151) (.t 157)) 146 true) [] (.take (OP 159 (.pick (.t 146) (.t 158) (.c (.bool false)))) [] .done)))))))))))))))))))) 0 [0,159]) (.cond (.t 159) (.cJ (.take (MV 160 0) [] (.take (OP 161 (.aF (.t 160))) [] (.take (FA 162 0 161) [] (.take (FA 163 9 162) [] (.take (LD 164 163) [] (.take (MV 165 0) [] (.take (OP 166 (.aF (.t 165))) [] (.take (FA 167 0 166) [] (.take (FA 168 4 167) [] (.take (LD 169 168) [] (.take (OP 170 (.aT 1 (.t 164) (.t 169))) [] (.op (NP (.store 1 (.t 170) (.c (.bool true)))) .done)))))))))))) 0 []) .skip)) (SR [OP 172 (.bin .eql (.t 4) (.c (.int .u8 99))),MV 171 172] [0,171] (.cond (.t 171) (.cJ (.take (MV 174 0) [] (.take (MV 175 0) [] (.take (OP 176 (.aF (.t 175))) [] (.take (FA 177 0 176) [] (.take (FA 178 0 177) [] (.take (LD 179 178) [] (.take (MV 180 0) [] (.take (OP 181 (.aF (.t 180))) [] (.take (FA 182 0 181) [] (.take (FA 183 1 182) [] (.take (LD 184 183) [] (.mid (OP 185 (.call 16 [.t 179,.t 184])) (.take (MV 173 185) [] (.take (OP 186 (.ext (.t 173) 0)) [] (.take (OP 187 (.ext (.t 173) 1)) [] (.take (OP 188 (.aF (.t 174))) [] (.take (FA 189 0 188) [] (.op (SA 24 189 186) .done)))))))))))))))))) 0 []) .skip)))))))))))))))),[]⟩
theorem fV:aK PG.P (aA PG.P 64 dX) 64=some dX:=by kernel_rfl
def mI (b:Int)(p:Pa):Pa:=if b=99 then pa0 0 else p
set_option maxHeartbeats 2000000 in
theorem WR (ok:aR s)(h:aB T0 T o s p)(hK:∀T',T.length<=T'.length->aB T0 T' o (jS s 55) (mI 55 p)->K (.tup []) T'):aj PG 64 [.ptr o 0 0,.int .u8 55] T K:=by
 obtain ⟨k0,q,tq,od,m,pr,d1,d2,d3,pa,t⟩:=id h
 have hb:=t.box
 unfold aN at hb
 have hr:=ok.g.r
 have hc:=ok.g.c
 have hy:=ok.y
 have hx:=ok.x
 refine aj.aE FOk.nil fV (by simp[dX]) ?_
 unfold dX
 dsimp only
 rw[show jS s 55={ s with sy:=s.y,sx:=s.x,eg:=s.attr} from rfl,show mI 55 p=p from rfl] at hK
 have kk:K (.tup []) (T.set o (some (.box (aN { s with sy:=s.y,sx:=s.x,eg:=s.attr} q tq od m pr d1 d2 d3)))):=hK _ (by simp) (.mk (k0.put t.no _) pa (t.put rfl rfl rfl rfl rfl))
 simp -implicitDefEqProofs -dsimp only[ah,ai hb,List.set_set,vcS,↓vcQ,simprocAttr]
 repeat' (first | exact kk | (simp;done) | apply And.intro)
set_option maxHeartbeats 2000000 in
theorem WQ (ok:aR s)(h:aB T0 T o s p)(hK:∀T',T.length<=T'.length->aB T0 T' o (jS s 56) (mI 56 p)->K (.tup []) T'):aj PG 64 [.ptr o 0 0,.int .u8 56] T K:=by
 obtain ⟨k0,q,tq,od,m,pr,d1,d2,d3,pa,t⟩:=id h
 have hb:=t.box
 unfold aN at hb
 have hr:=ok.g.r
 have hc:=ok.g.c
 have hy:=ok.y
 have hx:=ok.x
 refine aj.aE FOk.nil fV (by simp[dX]) ?_
 unfold dX
 dsimp only
 rw[show jS s 56={ s with y:=s.sy,x:=s.sx,attr:=s.eg,wrap:=false} from rfl,show mI 56 p=p from rfl] at hK
 have kk:K (.tup []) (T.set o (some (.box (aN { s with y:=s.sy,x:=s.sx,attr:=s.eg,wrap:=false} q tq od m pr d1 d2 d3)))):=hK _ (by simp) (.mk (k0.put t.no _) pa (t.put rfl rfl rfl rfl rfl))
 simp -implicitDefEqProofs -dsimp only[ah,ai hb,List.set_set,vcS,↓vcQ,simprocAttr]
 repeat' (first | exact kk | (simp;done) | apply And.intro)
set_option maxHeartbeats 2000000 in
theorem WO (ok:aR s)(h:aB T0 T o s p)(hK:∀T',T.length<=T'.length->aB T0 T' o (jS s 68) (mI 68 p)->K (.tup []) T'):aj PG 64 [.ptr o 0 0,.int .u8 68] T K:=by
 obtain ⟨k0,q,tq,od,m,pr,d1,d2,d3,pa,t⟩:=id h
 have hb:=t.box
 unfold aN at hb
 have hr:=ok.g.r
 have hc:=ok.g.c
 have hy:=ok.y
 have hx:=ok.x
 refine aj.aE FOk.nil fV (by simp[dX]) ?_
 unfold dX
 dsimp only
 rw[show jS s 68=cH s from rfl,show mI 68 p=p from rfl] at hK
 simp -implicitDefEqProofs -dsimp only[ah,ai hb,List.set_set,vcS,↓vcQ,simprocAttr]
 refine uC ok h fun T' l t'=>?_
 simp -implicitDefEqProofs -dsimp only[ah,vcS,↓vcQ,simprocAttr]
 exact ⟨l,hK _ l t'⟩
set_option maxHeartbeats 2000000 in
theorem WN (ok:aR s)(h:aB T0 T o s p)(hK:∀T',T.length<=T'.length->aB T0 T' o (jS s 69) (mI 69 p)->K (.tup []) T'):aj PG 64 [.ptr o 0 0,.int .u8 69] T K:=by
 obtain ⟨k0,q,tq,od,m,pr,d1,d2,d3,pa,t⟩:=id h
 have hb:=t.box
 unfold aN at hb
 have hr:=ok.g.r
 have hc:=ok.g.c
 have hy:=ok.y
 have hx:=ok.x
 refine aj.aE FOk.nil fV (by simp[dX]) ?_
 unfold dX
 dsimp only
 rw[show jS s 69={ cH s with x:=0} from rfl,show mI 69 p=p from rfl] at hK
 simp -implicitDefEqProofs -dsimp only[ah,ai hb,List.set_set,vcS,↓vcQ,simprocAttr]
 refine uC ok h fun T' l t'=>?_
 obtain ⟨k1,q',tq',od',m',pr',e1,e2,e3,pa',t2⟩:=t'
 have hb2:=t2.box
 unfold aN at hb2
 simp -implicitDefEqProofs -dsimp only[ah,ai hb2,vcS,↓vcQ,simprocAttr]
 exact ⟨by simpa using l,hK _ (by simpa using l) (.mk (k1.put t2.no _) pa' (t2.put rfl rfl rfl rfl rfl))⟩
set_option maxHeartbeats 2000000 in
theorem WL (ok:aR s)(h:aB T0 T o s p)(hK:∀T',T.length<=T'.length->aB T0 T' o (jS s 77) (mI 77 p)->K (.tup []) T'):aj PG 64 [.ptr o 0 0,.int .u8 77] T K:=by
 obtain ⟨k0,q,tq,od,m,pr,d1,d2,d3,pa,t⟩:=id h
 have hb:=t.box
 unfold aN at hb
 have hr:=ok.g.r
 have hc:=ok.g.c
 have hy:=ok.y
 have hx:=ok.x
 rw[show jS s 77=(if s.y=s.top then { s with wrap:=false,cells:=dnF s.cells s.aa s.top s.bot 1} else { s with wrap:=false,y:=s.y-1}) from rfl,show mI 77 p=p from rfl] at hK
 rcases Decidable.em (s.y=s.top) with c1 | c1
 ·rw[if_pos c1] at hK
  have c1':(s.y:Int)=s.top:=by omega
  refine aj.aE FOk.nil fV (by simp[dX]) ?_
  unfold dX
  dsimp only
  simp -implicitDefEqProofs -dsimp only[ah,ai hb,eq_true c1',List.set_set,vcS,↓vcQ,simprocAttr]
  have t1:=t.put (s':={ s with wrap:=false}) (l:=aN { s with wrap:=false} q tq od m pr d1 d2 d3) rfl rfl rfl rfl rfl
  refine E3 t1.cells ok.g ok.tb ok.b fun T' p hp hc k=>?_
  have hb':=k.at t1.box (by simp)
  unfold aN at hb'
  simp -implicitDefEqProofs -dsimp only[ah,ai hb',eq_true c1',vcS,↓vcQ,simprocAttr]
  have l1:=k.1
  simp only[List.length_set] at l1 hp
  have t2:=t1.abH k (by simp;exact k0.1) (by simpa using hp) (s':={ s with wrap:=false,cells:=dnF s.cells s.aa s.top s.bot 1}) (l:=aN { s with wrap:=false,cells:=dnF s.cells s.aa s.top s.bot 1} p tq od m pr d1 d2 d3) rfl hc rfl rfl rfl
  have hl:=nk (n:=1) ok.g ok.b ok.tb
  unfold aN at t2
  simp only[hl] at t2
  exact ⟨by simpa using l1,hK _ (by simpa using l1) (.mk (((k0.put t.no _).new k (by simp)).put t.no _) pa t2)⟩
 ·rw[if_neg c1] at hK
  have c1':¬(s.y:Int)=s.top:=by omega
  rcases Decidable.em (0<s.y) with c2 | c2
  ·have c2':(0:Int)<s.y:=by omega
   have w1:IntKind.i64.wrap ((s.y:Int)-1)=((s.y-1:Nat):Int):=by rw[aO (by omega) (by omega)];omega
   refine aj.aE FOk.nil fV (by simp[dX]) ?_
   unfold dX
   dsimp only
   simp -implicitDefEqProofs -dsimp only[ah,ai hb,eq_false c1',c2',w1,List.set_set,vcS,↓vcQ,simprocAttr]
   exact ⟨by simp,hK _ (by simp) (.mk (k0.put t.no _) pa (t.put rfl rfl rfl rfl rfl))⟩
  ·have c2':¬(0:Int)<s.y:=by omega
   have e0:s.y-1=s.y:=by omega
   rw[e0] at hK
   refine aj.aE FOk.nil fV (by simp[dX]) ?_
   unfold dX
   dsimp only
   simp -implicitDefEqProofs -dsimp only[ah,ai hb,eq_false c1',c2',List.set_set,vcS,↓vcQ,simprocAttr]
   exact ⟨by simp,hK _ (by simp) (.mk (k0.put t.no _) pa (t.put rfl rfl rfl rfl rfl))⟩
set_option maxHeartbeats 2000000 in
theorem WM (ok:aR s)(h:aB T0 T o s p)(hK:∀T',T.length<=T'.length->aB T0 T' o (jS s 72) (mI 72 p)->K (.tup []) T'):aj PG 64 [.ptr o 0 0,.int .u8 72] T K:=by
 obtain ⟨k0,q,tq,od,m,pr,d1,d2,d3,pa,t⟩:=id h
 have hb:=t.box
 unfold aN at hb
 have hr:=ok.g.r
 have hc:=ok.g.c
 have hy:=ok.y
 have hx:=ok.x
 refine aj.aE FOk.nil fV (by simp[dX]) ?_
 unfold dX
 dsimp only
 rw[show jS s 72={ s with aP:=s.aP.set s.x true} from rfl,show mI 72 p=p from rfl] at hK
 have x0:(0:Int)<=s.x:=by omega
 have x1:(s.x:Int)<s.aP.length:=by rw[ok.aP];omega
 have hg:=fl (L:=s.aP) (i:=s.x) (by omega)
 have bY:=jg s.aP s.x true
 simp -implicitDefEqProofs -dsimp only[ah,ai hb,ai t.aP,x0,x1,aY,hg,bY,Nat.zero_add,List.set_set,vcS,↓vcQ,simprocAttr]
 exact ⟨by simp,hK _ (by simp) (.mk (k0.put t.nt _) pa (t.tab (by simp)))⟩
set_option maxHeartbeats 2000000 in
theorem WJ (ok:aR s)(h:aB T0 T o s p)(hK:∀T',T.length<=T'.length->aB T0 T' o (jS s 99) (mI 99 p)->K (.tup []) T'):aj PG 64 [.ptr o 0 0,.int .u8 99] T K:=by
 obtain ⟨k0,q,tq,od,m,pr,d1,d2,d3,pa,t⟩:=id h
 have hb:=t.box
 unfold aN at hb
 have hr:=ok.g.r
 have hc:=ok.g.c
 have hy:=ok.y
 have hx:=ok.x
 refine aj.aE FOk.nil fV (by simp[dX]) ?_
 unfold dX
 dsimp only
 rw[show jS s 99=newF s.rows s.aa from rfl,show mI 99 p=pa0 0 from rfl] at hK
 simp -implicitDefEqProofs -dsimp only[ah,ai hb,List.set_set,vcS,↓vcQ,simprocAttr]
 refine Xs hr hc fun T' q' tq' h1 h2 h3 h4 h5 k=>?_
 unfold BU
 have hb':=k.at t.box (by simp)
 unfold aN at hb'
 simp -implicitDefEqProofs -dsimp only[ah,ai hb',aN,vcS,↓vcQ,simprocAttr]
 have l:=k.1
 have lo:=eI t.box
 have l0:=k0.1
 have pp:xH (pa0 0) 0 0 (.sl 0 [] .nil) (.sl 0 [] .nil) (.sl 0 [] .nil):={ m:=rfl,pr:=rfl,i1:=fP _ _ _,i2:=fP _ _ _,i3:=fP _ _ _,e1:=rfl,e2:=rfl,e3:=rfl}
 have tt:jT T0 (T'.set o (some (.box (aN (newF s.rows s.aa) q' tq' (.sl 0 [] .nil) 0 0 (.sl 0 [] .nil) (.sl 0 [] .nil) (.sl 0 [] .nil))))) o q' tq' (newF s.rows s.aa) (.sl 0 [] .nil) 0 0 (.sl 0 [] .nil) (.sl 0 [] .nil) (.sl 0 [] .nil):=
  ⟨bZ hb' _,bn h4 _ (by omega),bn h5 _ (by omega),.inr ⟨rfl,0,.nil,rfl⟩,by omega,by omega,h3,t.no,Dd.ge (by omega),Dd.ge (by omega)⟩
 exact ⟨by simpa using l,hK _ (by simpa using l) (.mk ((k0.new k (by simp)).put t.no _) pp tt)⟩
theorem WI {b:Int}(b1:¬b=55)(b2:¬b=56)(b3:¬b=68)(b4:¬b=69)(b5:¬b=77)(b6:¬b=72)(b7:¬b=99)(h:aB T0 T o s p)(hK:∀T',T.length<=T'.length->aB T0 T' o (jS s b) (mI b p)->K (.tup []) T'):aj PG 64 [.ptr o 0 0,.int .u8 b] T K:=by
 refine aj.aE FOk.nil fV (by simp[dX]) ?_
 unfold dX
 dsimp only
 unfold jS mI at hK
 rw[if_neg b1,if_neg b2,if_neg b3,if_neg b4,if_neg b5,if_neg b6,if_neg b7,if_neg b7] at hK
 simp -implicitDefEqProofs -dsimp only[ah,eq_false b1,eq_false b2,eq_false b3,eq_false b4,eq_false b5,eq_false b6,eq_false b7,List.set_set,vcS,↓vcQ,simprocAttr]
 exact hK _ (Nat.le_refl _) h
theorem aaD {b:Int}(ok:aR s)(h:aB T0 T o s p)(hK:∀T',T.length<=T'.length->aB T0 T' o (jS s b) (mI b p)->K (.tup []) T'):aj PG 64 [.ptr o 0 0,.int .u8 b] T K:=by
 rcases Decidable.em (b=55) with b1 | b1
 ·subst b1;exact WR ok h hK
 rcases Decidable.em (b=56) with b2 | b2
 ·subst b2;exact WQ ok h hK
 rcases Decidable.em (b=68) with b3 | b3
 ·subst b3;exact WO ok h hK
 rcases Decidable.em (b=69) with b4 | b4
 ·subst b4;exact WN ok h hK
 rcases Decidable.em (b=77) with b5 | b5
 ·subst b5;exact WL ok h hK
 rcases Decidable.em (b=72) with b6 | b6
 ·subst b6;exact WM ok h hK
 rcases Decidable.em (b=99) with b7 | b7
 ·subst b7;exact WJ ok h hK
 exact WI b1 b2 b3 b4 b5 b6 b7 h hK
end Go.Proofs.YtjmnbpilnneonaaGreatDoor
