/- Texts H4 in one. -/
import Derived.Test.YtjmnbpilnneonaaGreatDoorN3
import Derived.Test.YtjmnbpilnneonaaGreatDoorN7
set_option linter.unusedVariables false
set_option linter.unusedSimpArgs false
set_option maxRecDepth 10000
namespace Go.Proofs.YtjmnbpilnneonaaGreatDoor
open Go.RowKit
noncomputable def ej:RFn:=⟨2,190,(SR [MV 4 1] [0,4] (.blk 0 (SR [OP 6 (.bin .eql (.t 4) (.c (.int .u8 55))),MV 5 6] [0,4,5] (.cond (.t 5) (.cK (.take (MV 7 0) [] (.take (MV 8 0) [] (.take (MV 9 0) [] (.take (MV 10 0) [] (.take (OP 11 (.aC (.t 10))) [] (.take (FA 12 0 11) [] (.take (FA 13 3 12) [] (.take (LD 14 13) [] (.take (MV 15 0) [] (.take (OP 16 (.aC (.t 15))) [] (.take (FA 17 0 16) [] (.take (FA 18 4 17) [] (.take (LD 19 18) [] (.take (MV 20 0) [] (.take (OP 21 (.aC (.t 20))) [] (.take (FA 22 0 21) [] (.take (FA 23 6 22) [] (.take (LD 24 23) [] (.take (OP 25 (.aC (.t 7))) [] (.take (FA 26 0 25) [] (.take (FA 27 10 26) [] (.op (SA 1 27 14) (.take (OP 28 (.aC (.t 8))) [] (.take (FA 29 0 28) [] (.take (FA 30 11 29) [] (.op (SA 1 30 19) (.take (OP 31 (.aC (.t 9))) [] (.take (FA 32 0 31) [] (.take (FA 33 12 32) [] (.op (SA 1 33 24) .done)))))))))))))))))))))))))))))) 0 []) (SR [OP 35 (.bin .eql (.t 4) (.c (.int .u8 56))),MV 34 35] [0,4,34] (.cond (.t 34) (.cK (.take (MV 36 0) [] (.take (MV 37 0) [] (.take (MV 38 0) [] (.take (MV 39 0) [] (.take (MV 40 0) [] (.take (OP 41 (.aC (.t 40))) [] (.take (FA 42 0 41) [] (.take (FA 43 10 42) [] (.take (LD 44 43) [] (.take (MV 45 0) [] (.take (OP 46 (.aC (.t 45))) [] (.take (FA 47 0 46) [] (.take (FA 48 11 47) [] (.take (LD 49 48) [] (.take (MV 50 0) [] (.take (OP 51 (.aC (.t 50))) [] (.take (FA 52 0 51) [] (.take (FA 53 12 52) [] (.take (LD 54 53) [] (.take (OP 55 (.aC (.t 36))) [] (.take (FA 56 0 55) [] (.take (FA 57 3 56) [] (.op (SA 1 57 44) (.take (OP 58 (.aC (.t 37))) [] (.take (FA 59 0 58) [] (.take (FA 60 4 59) [] (.op (SA 1 60 49) (.take (OP 61 (.aC (.t 38))) [] (.take (FA 62 0 61) [] (.take (FA 63 6 62) [] (.op (SA 1 63 54) (.take (OP 64 (.aC (.t 39))) [] (.take (FA 65 0 64) [] (.take (FA 66 5 65) [] (.op (NP (.store 1 (.t 66) (.c (.bool false)))) .done))))))))))))))))))))))))))))))))))) 0 []) (SR [OP 68 (.bin .eql (.t 4) (.c (.int .u8 68))),MV 67 68] [0,4,67] (.cond (.t 67) (.reg [MV 69 0,OP 70 (.call 97 [.t 69])] 0 []) (SR [OP 72 (.bin .eql (.t 4) (.c (.int .u8 69))),MV 71 72] [0,4,71] (.cond (.t 71) (SR [MV 73 0,OP 74 (.call 97 [.t 73])] [0] (.reg [MV 75 0,OP 76 (.aC (.t 75)),FA 77 0 76,FA 78 4 77,NP (.store 1 (.t 78) (.c (.int .i64 0)))] 0 [])) (SR [OP 80 (.bin .eql (.t 4) (.c (.int .u8 77))),MV 79 80] [0,4,79] (.cond (.t 79) (SR [MV 81 0,OP 82 (.aC (.t 81)),FA 83 0 82,FA 84 5 83,NP (.store 1 (.t 84) (.c (.bool false)))] [0] (.blk 1 (.seq (.cK (.take (MV 86 0) [] (.take (OP 87 (.aC (.t 86))) [] (.take (FA 88 0 87) [] (.take (FA 89 3 88) [] (.take (LD 90 89) [] (.take (MV 91 0) [] (.take (OP 92 (.aC (.t 91))) [] (.take (FA 93 0 92) [] (.take (FA 94 7 93) [] (.take (LD 95 94) [] (.take (BT 96 .eql 90 95) [] (.take (MV 85 96) [] .done)))))))))))) 0 [0,85]) (.cond (.t 85) (.cK (.take (MV 97 0) [] (.take (MV 98 0) [] (.take (OP 99 (.aC (.t 98))) [] (.take (FA 100 0 99) [] (.take (FA 101 2 100) [] (.take (LD 102 101) [] (.take (MV 103 0) [] (.take (OP 104 (.aC (.t 103))) [] (.take (FA 105 0 104) [] (.take (FA 106 1 105) [] (.take (LD 107 106) [] (.take (MV 108 0) [] (.take (OP 109 (.aC (.t 108))) [] (.take (FA 110 0 109) [] (.take (FA 111 7 110) [] (.take (LD 112 111) [] (.take (MV 113 0) [] (.take (OP 114 (.aC (.t 113))) [] (.take (FA 115 0 114) [] (.take (FA 116 8 115) [] (.take (LD 117 116) [] (.mid (OP 118 (.call 98 [.t 102,.t 107,.t 112,.t 117,.c (.int .i64 1)])) (.take (OP 119 (.aC (.t 97))) [] (.take (FA 120 0 119) [] (.take (FA 121 2 120) [] (.op (SA 1 121 118) .done)))))))))))))))))))))))))) 0 []) (SR [MV 123 0,OP 124 (.aC (.t 123)),FA 125 0 124,FA 126 3 125,LD 127 126,BI 128 .gtr 127 0,MV 122 128] [0,122] (.cond (.t 122) (.reg [MV 129 0,OP 130 (.aC (.t 129)),FA 131 0 130,FA 132 3 131,LD 133 132,BI 134 .sub 133 1,OP 135 (.aC (.t 129)),FA 136 0 135,FA 137 3 136,SA 1 137 134] 0 []) .skip)))))) (SR [OP 139 (.bin .eql (.t 4) (.c (.int .u8 72))),MV 138 139] [0,4,138] (.cond (.t 138) (.seq (.cK (.take (MV 140 0) [] (.take (OP 141 (.aC (.t 140))) [] (.take (FA 142 0 141) [] (.take (FA 143 4 142) [] (.take (LD 144 143) [] (.take (BI 145 .geq 144 0) [] (.take (MV 146 145) [] (.take (MG 147 0 146 true) [] (.take (OG 148 (.aC (.t 147)) 146 true) [] (.take (FG 149 0 148 146 true) [] (.take (FG 150 4 149 146 true) [] (.take (LG 151 150 146 true) [] (.take (MG 152 0 146 true) [] (.take (OG 153 (.aC (.t 152)) 146 true) [] (.take (FG 154 0 153 146 true) [] (.take (FG 155 9 154 146 true) [] (.take (LG 156 155 146 true) [] (.take (OG 157 (.len (.t 156)) 146 true) [] (.take (OG 158 (.bin .lss (.t 151) (.t 157)) 146 true) [] (.take (OP 159 (.pick (.t 146) (.t 158) (.c (.bool false)))) [] .done)))))))))))))))))))) 0 [0,159]) (.cond (.t 159) (.cK (.take (MV 160 0) [] (.take (OP 161 (.aC (.t 160))) [] (.take (FA 162 0 161) [] (.take (FA 163 9 162) [] (.take (LD 164 163) [] (.take (MV 165 0) [] (.take (OP 166 (.aC (.t 165))) [] (.take (FA 167 0 166) [] (.take (FA 168 4 167) [] (.take (LD 169 168) [] (.take (OP 170 (.aT 1 (.t 164) (.t 169))) [] (.op (NP (.store 1 (.t 170) (.c (.bool true)))) .done)))))))))))) 0 []) .skip)) (SR [OP 172 (.bin .eql (.t 4) (.c (.int .u8 99))),MV 171 172] [0,171] (.cond (.t 171) (.cK (.take (MV 174 0) [] (.take (MV 175 0) [] (.take (OP 176 (.aC (.t 175))) [] (.take (FA 177 0 176) [] (.take (FA 178 0 177) [] (.take (LD 179 178) [] (.take (MV 180 0) [] (.take (OP 181 (.aC (.t 180))) [] (.take (FA 182 0 181) [] (.take (FA 183 1 182) [] (.take (LD 184 183) [] (.mid (OP 185 (.call 16 [.t 179,.t 184])) (.take (MV 173 185) [] (.take (OP 186 (.ext (.t 173) 0)) [] (.take (OP 187 (.ext (.t 173) 1)) [] (.take (OP 188 (.aC (.t 174))) [] (.take (FA 189 0 188) [] (.op (SA 24 189 186) .done)))))))))))))))))) 0 []) .skip)))))))))))))))),[]⟩
theorem fJ:aK PG.P [⟨0,0,[0,4],[]⟩,⟨1,0,[0,4,5],[]⟩,⟨2,0,[],[]⟩,⟨3,0,[0,4,34],[]⟩,⟨4,0,[],[]⟩,⟨5,0,[0,4,67],[]⟩,⟨6,0,[],[]⟩,⟨7,0,[0,4,71],[]⟩,⟨8,0,[0],[]⟩,⟨9,0,[],[]⟩,⟨10,0,[0,4,79],[]⟩,⟨11,0,[0],[]⟩,⟨12,0,[0,85],[]⟩,⟨13,0,[],[]⟩,⟨14,0,[0,122],[]⟩,⟨15,0,[],[]⟩,⟨16,0,[0,4,138],[]⟩,⟨17,0,[0,159],[]⟩,⟨18,0,[],[]⟩,⟨19,0,[0,171],[]⟩,⟨20,0,[],[]⟩] 64=some ej:=by kernel_rfl
def mq (b:Int)(p:Pa):Pa:=if b=99 then pa0 0 else p
set_option maxHeartbeats 2000000 in
theorem XC {T0 T:aj}{o:Nat}{s:Sc}{p:Pa}{K:DV→aj→Prop}(ok:aR s)(h:aB T0 T o s p)(hK:∀T',T.length≤T'.length→aB T0 T' o (jD s 55) (mq 55 p)→K (.tup []) T'):aq PG 64 [.ptr o 0 0,.int .u8 55] T K:=by
 obtain ⟨k0,q,tq,od,m,pr,d1,d2,d3,pa,t⟩:=id h
 have hb:=t.box
 unfold aO at hb
 have hr:=ok.g.r
 have hc:=ok.g.c
 have hy:=ok.y
 have hx:=ok.x
 refine aq.aE FOk.nil fJ (by simp [ej]) ?_
 unfold ej
 dsimp only
 rw [show jD s 55={ s with sy:=s.y,sx:=s.x,fN:=s.attr} from rfl,show mq 55 p=p from rfl] at hK
 have kk:K (.tup []) (T.set o (some (.box (aO { s with sy:=s.y,sx:=s.x,fN:=s.attr} q tq od m pr d1 d2 d3)))):=hK _ (by simp) (.mk (k0.put t.no _) pa (t.put rfl rfl rfl rfl rfl))
 simp -implicitDefEqProofs -dsimp only [ah,ai hb,List.set_set,vcS,↓an,↓ak,simprocAttr]
 repeat' (first | exact kk | (simp;done) | apply And.intro)
set_option maxHeartbeats 2000000 in
theorem XB {T0 T:aj}{o:Nat}{s:Sc}{p:Pa}{K:DV→aj→Prop}(ok:aR s)(h:aB T0 T o s p)(hK:∀T',T.length≤T'.length→aB T0 T' o (jD s 56) (mq 56 p)→K (.tup []) T'):aq PG 64 [.ptr o 0 0,.int .u8 56] T K:=by
 obtain ⟨k0,q,tq,od,m,pr,d1,d2,d3,pa,t⟩:=id h
 have hb:=t.box
 unfold aO at hb
 have hr:=ok.g.r
 have hc:=ok.g.c
 have hy:=ok.y
 have hx:=ok.x
 refine aq.aE FOk.nil fJ (by simp [ej]) ?_
 unfold ej
 dsimp only
 rw [show jD s 56={ s with y:=s.sy,x:=s.sx,attr:=s.fN,wrap:=false} from rfl,show mq 56 p=p from rfl] at hK
 have kk:K (.tup []) (T.set o (some (.box (aO { s with y:=s.sy,x:=s.sx,attr:=s.fN,wrap:=false} q tq od m pr d1 d2 d3)))):=hK _ (by simp) (.mk (k0.put t.no _) pa (t.put rfl rfl rfl rfl rfl))
 simp -implicitDefEqProofs -dsimp only [ah,ai hb,List.set_set,vcS,↓an,↓ak,simprocAttr]
 repeat' (first | exact kk | (simp;done) | apply And.intro)
set_option maxHeartbeats 2000000 in
theorem XA {T0 T:aj}{o:Nat}{s:Sc}{p:Pa}{K:DV→aj→Prop}(ok:aR s)(h:aB T0 T o s p)(hK:∀T',T.length≤T'.length→aB T0 T' o (jD s 68) (mq 68 p)→K (.tup []) T'):aq PG 64 [.ptr o 0 0,.int .u8 68] T K:=by
 obtain ⟨k0,q,tq,od,m,pr,d1,d2,d3,pa,t⟩:=id h
 have hb:=t.box
 unfold aO at hb
 have hr:=ok.g.r
 have hc:=ok.g.c
 have hy:=ok.y
 have hx:=ok.x
 refine aq.aE FOk.nil fJ (by simp [ej]) ?_
 unfold ej
 dsimp only
 rw [show jD s 68=cD s from rfl,show mq 68 p=p from rfl] at hK
 simp -implicitDefEqProofs -dsimp only [ah,ai hb,List.set_set,vcS,↓an,↓ak,simprocAttr]
 refine tW ok h fun T' l t'=>?_
 simp -implicitDefEqProofs -dsimp only [ah,vcS,↓an,↓ak,simprocAttr]
 exact ⟨l,hK _ l t'⟩
set_option maxHeartbeats 2000000 in
theorem Xz {T0 T:aj}{o:Nat}{s:Sc}{p:Pa}{K:DV→aj→Prop}(ok:aR s)(h:aB T0 T o s p)(hK:∀T',T.length≤T'.length→aB T0 T' o (jD s 69) (mq 69 p)→K (.tup []) T'):aq PG 64 [.ptr o 0 0,.int .u8 69] T K:=by
 obtain ⟨k0,q,tq,od,m,pr,d1,d2,d3,pa,t⟩:=id h
 have hb:=t.box
 unfold aO at hb
 have hr:=ok.g.r
 have hc:=ok.g.c
 have hy:=ok.y
 have hx:=ok.x
 refine aq.aE FOk.nil fJ (by simp [ej]) ?_
 unfold ej
 dsimp only
 rw [show jD s 69={ cD s with x:=0} from rfl,show mq 69 p=p from rfl] at hK
 simp -implicitDefEqProofs -dsimp only [ah,ai hb,List.set_set,vcS,↓an,↓ak,simprocAttr]
 refine tW ok h fun T' l t'=>?_
 obtain ⟨k1,q',tq',od',m',pr',e1,e2,e3,pa',t2⟩:=t'
 have hb2:=t2.box
 unfold aO at hb2
 simp -implicitDefEqProofs -dsimp only [ah,ai hb2,vcS,↓an,↓ak,simprocAttr]
 exact ⟨by simpa using l,hK _ (by simpa using l) (.mk (k1.put t2.no _) pa' (t2.put rfl rfl rfl rfl rfl))⟩
set_option maxHeartbeats 2000000 in
theorem Xx {T0 T:aj}{o:Nat}{s:Sc}{p:Pa}{K:DV→aj→Prop}(ok:aR s)(h:aB T0 T o s p)(hK:∀T',T.length≤T'.length→aB T0 T' o (jD s 77) (mq 77 p)→K (.tup []) T'):aq PG 64 [.ptr o 0 0,.int .u8 77] T K:=by
 obtain ⟨k0,q,tq,od,m,pr,d1,d2,d3,pa,t⟩:=id h
 have hb:=t.box
 unfold aO at hb
 have hr:=ok.g.r
 have hc:=ok.g.c
 have hy:=ok.y
 have hx:=ok.x
 rw [show jD s 77=(if s.y=s.top then { s with wrap:=false,cells:=dnF s.cells s.aa s.top s.bot 1} else { s with wrap:=false,y:=s.y-1}) from rfl,show mq 77 p=p from rfl] at hK
 rcases Decidable.em (s.y=s.top) with c1 | c1
 ·rw [if_pos c1] at hK
  have c1':(s.y:Int)=s.top:=by omega
  refine aq.aE FOk.nil fJ (by simp [ej]) ?_
  unfold ej
  dsimp only
  simp -implicitDefEqProofs -dsimp only [ah,ai hb,eq_true c1',List.set_set,vcS,↓an,↓ak,simprocAttr]
  have t1:=t.put (s':={ s with wrap:=false}) (l:=aO { s with wrap:=false} q tq od m pr d1 d2 d3) rfl rfl rfl rfl rfl
  refine HJ t1.cells ok.g ok.tb ok.b fun T' p hp hc k=>?_
  have hb':=k.at t1.box (by simp)
  unfold aO at hb'
  simp -implicitDefEqProofs -dsimp only [ah,ai hb',eq_true c1',vcS,↓an,↓ak,simprocAttr]
  have l1:=k.1
  simp only [List.length_set] at l1 hp
  have t2:=t1.aav k (by simp;exact k0.1) (by simpa using hp) (s':={ s with wrap:=false,cells:=dnF s.cells s.aa s.top s.bot 1}) (l:=aO { s with wrap:=false,cells:=dnF s.cells s.aa s.top s.bot 1} p tq od m pr d1 d2 d3) rfl hc rfl rfl rfl
  have hl:=mP (n:=1) ok.g ok.b ok.tb
  unfold aO at t2
  simp only [hl] at t2
  exact ⟨by simpa using l1,hK _ (by simpa using l1) (.mk (((k0.put t.no _).new k (by simp)).put t.no _) pa t2)⟩
 ·rw [if_neg c1] at hK
  have c1':¬(s.y:Int)=s.top:=by omega
  rcases Decidable.em (0<s.y) with c2 | c2
  ·have c2':(0:Int)<s.y:=by omega
   have w1:IntKind.i64.wrap ((s.y:Int)-1)=((s.y-1:Nat):Int):=by rw [aP (by omega) (by omega)];omega
   refine aq.aE FOk.nil fJ (by simp [ej]) ?_
   unfold ej
   dsimp only
   simp -implicitDefEqProofs -dsimp only [ah,ai hb,eq_false c1',c2',w1,List.set_set,vcS,↓an,↓ak,simprocAttr]
   exact ⟨by simp,hK _ (by simp) (.mk (k0.put t.no _) pa (t.put rfl rfl rfl rfl rfl))⟩
  ·have c2':¬(0:Int)<s.y:=by omega
   have e0:s.y-1=s.y:=by omega
   rw [e0] at hK
   refine aq.aE FOk.nil fJ (by simp [ej]) ?_
   unfold ej
   dsimp only
   simp -implicitDefEqProofs -dsimp only [ah,ai hb,eq_false c1',c2',List.set_set,vcS,↓an,↓ak,simprocAttr]
   exact ⟨by simp,hK _ (by simp) (.mk (k0.put t.no _) pa (t.put rfl rfl rfl rfl rfl))⟩
set_option maxHeartbeats 2000000 in
theorem Xy {T0 T:aj}{o:Nat}{s:Sc}{p:Pa}{K:DV→aj→Prop}(ok:aR s)(h:aB T0 T o s p)(hK:∀T',T.length≤T'.length→aB T0 T' o (jD s 72) (mq 72 p)→K (.tup []) T'):aq PG 64 [.ptr o 0 0,.int .u8 72] T K:=by
 obtain ⟨k0,q,tq,od,m,pr,d1,d2,d3,pa,t⟩:=id h
 have hb:=t.box
 unfold aO at hb
 have hr:=ok.g.r
 have hc:=ok.g.c
 have hy:=ok.y
 have hx:=ok.x
 refine aq.aE FOk.nil fJ (by simp [ej]) ?_
 unfold ej
 dsimp only
 rw [show jD s 72={ s with aU:=s.aU.set s.x true} from rfl,show mq 72 p=p from rfl] at hK
 have x0:(0:Int)≤s.x:=by omega
 have x1:(s.x:Int)<s.aU.length:=by rw [ok.aU];omega
 have hg:=fc (L:=s.aU) (i:=s.x) (by omega)
 have cv:=iW s.aU s.x true
 simp -implicitDefEqProofs -dsimp only [ah,ai hb,ai t.aU,x0,x1,bC,hg,cv,Nat.zero_add,List.set_set,vcS,↓an,↓ak,simprocAttr]
 exact ⟨by simp,hK _ (by simp) (.mk (k0.put t.nt _) pa (t.tab (by simp)))⟩
set_option maxHeartbeats 2000000 in
theorem Xw {T0 T:aj}{o:Nat}{s:Sc}{p:Pa}{K:DV→aj→Prop}(ok:aR s)(h:aB T0 T o s p)(hK:∀T',T.length≤T'.length→aB T0 T' o (jD s 99) (mq 99 p)→K (.tup []) T'):aq PG 64 [.ptr o 0 0,.int .u8 99] T K:=by
 obtain ⟨k0,q,tq,od,m,pr,d1,d2,d3,pa,t⟩:=id h
 have hb:=t.box
 unfold aO at hb
 have hr:=ok.g.r
 have hc:=ok.g.c
 have hy:=ok.y
 have hx:=ok.x
 refine aq.aE FOk.nil fJ (by simp [ej]) ?_
 unfold ej
 dsimp only
 rw [show jD s 99=newF s.rows s.aa from rfl,show mq 99 p=pa0 0 from rfl] at hK
 simp -implicitDefEqProofs -dsimp only [ah,ai hb,List.set_set,vcS,↓an,↓ak,simprocAttr]
 refine XW hr hc fun T' q' tq' h1 h2 h3 h4 h5 k=>?_
 unfold Ds
 have hb':=k.at t.box (by simp)
 unfold aO at hb'
 simp -implicitDefEqProofs -dsimp only [ah,ai hb',aO,vcS,↓an,↓ak,simprocAttr]
 have l:=k.1
 have lo:=eB t.box
 have l0:=k0.1
 have pp:xE (pa0 0) 0 0 (.sl 0 [] .nil) (.sl 0 [] .nil) (.sl 0 [] .nil):={ m:=rfl,pr:=rfl,i1:=fE _ _ _,i2:=fE _ _ _,i3:=fE _ _ _,e1:=rfl,e2:=rfl,e3:=rfl}
 have tt:jE T0 (T'.set o (some (.box (aO (newF s.rows s.aa) q' tq' (.sl 0 [] .nil) 0 0 (.sl 0 [] .nil) (.sl 0 [] .nil) (.sl 0 [] .nil))))) o q' tq' (newF s.rows s.aa) (.sl 0 [] .nil) 0 0 (.sl 0 [] .nil) (.sl 0 [] .nil) (.sl 0 [] .nil):=
  ⟨bX hb' _,aY h4 _ (by omega),aY h5 _ (by omega),.inr ⟨rfl,0,.nil,rfl⟩,by omega,by omega,h3,t.no,Dd.ge (by omega),Dd.ge (by omega)⟩
 exact ⟨by simpa using l,hK _ (by simpa using l) (.mk ((k0.new k (by simp)).put t.no _) pp tt)⟩
theorem Xv {T0 T:aj}{o:Nat}{s:Sc}{p:Pa}{b:Int}{K:DV→aj→Prop}(b1:¬b=55)(b2:¬b=56)(b3:¬b=68)(b4:¬b=69)(b5:¬b=77)(b6:¬b=72)(b7:¬b=99)(h:aB T0 T o s p)(hK:∀T',T.length≤T'.length→aB T0 T' o (jD s b) (mq b p)→K (.tup []) T'):aq PG 64 [.ptr o 0 0,.int .u8 b] T K:=by
 refine aq.aE FOk.nil fJ (by simp [ej]) ?_
 unfold ej
 dsimp only
 unfold jD mq at hK
 rw [if_neg b1,if_neg b2,if_neg b3,if_neg b4,if_neg b5,if_neg b6,if_neg b7,if_neg b7] at hK
 simp -implicitDefEqProofs -dsimp only [ah,eq_false b1,eq_false b2,eq_false b3,eq_false b4,eq_false b5,eq_false b6,eq_false b7,List.set_set,vcS,↓an,↓ak,simprocAttr]
 exact hK _ (Nat.le_refl _) h
theorem ZH {T0 T:aj}{o:Nat}{s:Sc}{p:Pa}{b:Int}{K:DV→aj→Prop}(ok:aR s)(h:aB T0 T o s p)(hK:∀T',T.length≤T'.length→aB T0 T' o (jD s b) (mq b p)→K (.tup []) T'):aq PG 64 [.ptr o 0 0,.int .u8 b] T K:=by
 rcases Decidable.em (b=55) with b1 | b1
 ·subst b1;exact XC ok h hK
 rcases Decidable.em (b=56) with b2 | b2
 ·subst b2;exact XB ok h hK
 rcases Decidable.em (b=68) with b3 | b3
 ·subst b3;exact XA ok h hK
 rcases Decidable.em (b=69) with b4 | b4
 ·subst b4;exact Xz ok h hK
 rcases Decidable.em (b=77) with b5 | b5
 ·subst b5;exact Xx ok h hK
 rcases Decidable.em (b=72) with b6 | b6
 ·subst b6;exact Xy ok h hK
 rcases Decidable.em (b=99) with b7 | b7
 ·subst b7;exact Xw ok h hK
 exact Xv b1 b2 b3 b4 b5 b6 b7 h hK
end Go.Proofs.YtjmnbpilnneonaaGreatDoor
