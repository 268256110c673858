/- Texts H5, H6 in one. -/
import Derived.Test.YtjmnbpilnneonaaGreatDoorN3
set_option linter.unusedVariables false
set_option linter.unusedSimpArgs false
set_option maxRecDepth 10000
namespace Go.Proofs.YtjmnbpilnneonaaGreatDoor
open Go.RowKit
noncomputable section
variable {s:Sc}{T0 T:ay}{o:Nat}{p:Pa}{K:DV->ay->Prop}{n:Int}
def gK:RC:=(.seq (.cJ (.take (MV 57 0) [] (.take (OP 58 (.aF (.t 57))) [] (.take (FA 59 0 58) [] (.take (FA 60 2 59) [] (.take (LD 61 60) [] (.take (MV 62 0) [] (.take (OP 63 (.aF (.t 62))) [] (.take (FA 64 0 63) [] (.take (FA 65 1 64) [] (.take (LD 66 65) [] (.take (MV 67 0) [] (.take (OP 68 (.aF (.t 67))) [] (.take (FA 69 0 68) [] (.take (FA 70 3 69) [] (.take (LD 71 70) [] (.mid (OP 72 (.call 44 [.t 61,.t 66,.t 71])) (.take (MV 5 72) [] .done))))))))))))))))) 0 [0,1,4,5]) (.seq (SR [MV 73 0,OP 74 (.aF (.t 73)),FA 75 0 74,FA 76 4 75,LD 77 76,BI 78 .lss 77 0,MV 79 78,MG 80 0 79 false,OG 81 (.aF (.t 80)) 79 false,FG 82 0 81 79 false,FG 83 4 82 79 false,LG 84 83 79 false,MG 85 4 79 false,OG 86 (.bin .add (.t 84) (.t 85)) 79 false,MG 87 5 79 false,OG 88 (.len (.t 87)) 79 false,OG 89 (.bin .gtr (.t 86) (.t 88)) 79 false,OP 90 (.pick (.t 79) (.c (.bool true)) (.t 89))] [0,1,4,5,90] (.cond (.t 90) .ret .skip)) (.seq (.cJ (.take (MV 91 5) [] (.take (MV 92 0) [] (.take (OP 93 (.aF (.t 92))) [] (.take (FA 94 0 93) [] (.take (FA 95 4 94) [] (.take (LD 96 95) [] (.take (MV 97 1) [] (.take (MV 98 0) [] (.take (OP 99 (.aF (.t 98))) [] (.take (FA 100 0 99) [] (.take (FA 101 6 100) [] (.take (LD 102 101) [] (.take (OP 103 (.build [.int .i32 0,.int .u16 0,.int .u8 0] [(0,(1,(.t 97))),(1,(1,(.t 102)))])) [] (.take (OP 104 (.aT 3 (.t 91) (.t 96))) [] (.op (SA 3 104 103) .done))))))))))))))) 0 [0,4,5]) (.seq (SR [MV 105 4,BI 106 .eql 105 2] [0,4,5,106] (.cond (.t 106) (SR [MV 107 5,MV 108 0,OP 109 (.aF (.t 108)),FA 110 0 109,FA 111 4 110,LD 112 111,OP 113 (.aT 3 (.t 107) (.t 112)),FA 114 2 113,NP (.store 1 (.t 114) (.c (.int .u8 1)))] [0,4,5] (.cJ (.take (MV 115 5) [] (.take (MV 116 0) [] (.take (OP 117 (.aF (.t 116))) [] (.take (FA 118 0 117) [] (.take (FA 119 4 118) [] (.take (LD 120 119) [] (.take (BI 121 .add 120 1) [] (.take (MV 122 0) [] (.take (OP 123 (.aF (.t 122))) [] (.take (FA 124 0 123) [] (.take (FA 125 6 124) [] (.take (LD 126 125) [] (.take (OP 127 (.build [.int .i32 0,.int .u16 0,.int .u8 0] [(1,(1,(.t 126))),(2,(1,(.c (.int .u8 2))))])) [] (.take (OP 128 (.aT 3 (.t 115) (.t 121))) [] (.op (SA 3 128 127) .done))))))))))))))) 0 [0,4,5])) .skip)) (SR [MV 129 5,OP 130 (.call 48 [.t 129])] [0,4] (SR [MV 131 0,OP 132 (.aF (.t 131)),FA 133 0 132,FA 134 4 133,LD 135 134,MV 136 4,BT 137 .add 135 136,OP 138 (.aF (.t 131)),FA 139 0 138,FA 140 4 139,SA 1 140 137] [0] (.seq (.cJ (.take (MV 141 0) [] (.take (OP 142 (.aF (.t 141))) [] (.take (FA 143 0 142) [] (.take (FA 144 4 143) [] (.take (LD 145 144) [] (.take (MV 146 0) [] (.take (OP 147 (.aF (.t 146))) [] (.take (FA 148 0 147) [] (.take (FA 149 1 148) [] (.take (LD 150 149) [] (.take (BT 151 .geq 145 150) [] .done))))))))))) 0 [0,151]) (.cond (.t 151) (.cJ (.take (MV 152 0) [] (.take (MV 153 0) [] (.take (MV 154 0) [] (.take (OP 155 (.aF (.t 154))) [] (.take (FA 156 0 155) [] (.take (FA 157 1 156) [] (.take (LD 158 157) [] (.take (BI 159 .sub 158 1) [] (.take (MV 160 0) [] (.take (OP 161 (.aF (.t 160))) [] (.take (FA 162 0 161) [] (.take (FA 163 13 162) [] (.take (LD 164 163) [] (.take (OP 165 (.aF (.t 152))) [] (.take (FA 166 0 165) [] (.take (FA 167 4 166) [] (.op (SA 1 167 159) (.take (OP 168 (.aF (.t 153))) [] (.take (FA 169 0 168) [] (.take (FA 170 5 169) [] (.op (SA 1 170 164) .done))))))))))))))))))))) 0 []) .skip))))))))
theorem fF (E:Prg)(F:dW)(n:Nat)(Q:Exit->St->Prop)(st:St):RC.wp E F n gK Q st=WpH E F n gK Q st:=ak _
def eF:RC:=(.seq (.seq (.cJ (.take (MV 21 4) [] (.take (BI 22 .eql 21 2) [] (.take (MV 23 22) [] (.take (MG 24 0 23 true) [] (.take (OG 25 (.aF (.t 24)) 23 true) [] (.take (FG 26 0 25 23 true) [] (.take (FG 27 4 26 23 true) [] (.take (LG 28 27 23 true) [] (.take (MG 29 0 23 true) [] (.take (OG 30 (.aF (.t 29)) 23 true) [] (.take (FG 31 0 30 23 true) [] (.take (FG 32 1 31 23 true) [] (.take (LG 33 32 23 true) [] (.take (OG 34 (.bin .sub (.t 33) (.c (.int .i64 1))) 23 true) [] (.take (OG 35 (.bin .eql (.t 28) (.t 34)) 23 true) [] (.take (OP 36 (.pick (.t 23) (.t 35) (.c (.bool false)))) [] .done)))))))))))))))) 0 [0,1,4,36]) (.cond (.t 36) (.seq (SR [MV 37 0,OP 38 (.aF (.t 37)),FA 39 0 38,FA 40 13 39,LD 41 40,OP 42 (.un .not (.t 41)),MV 43 42,MG 44 0 43 false,OG 45 (.aF (.t 44)) 43 false,FG 46 0 45 43 false,FG 47 1 46 43 false,LG 48 47 43 false,OG 49 (.bin .eql (.t 48) (.c (.int .i64 1))) 43 false,OP 50 (.pick (.t 43) (.c (.bool true)) (.t 49))] [0,1,4,50] (.cond (.t 50) .ret .skip)) (SR [MV 51 0,OP 52 (.call 97 [.t 51])] [0,1,4] (.reg [MV 53 0,OP 54 (.aF (.t 53)),FA 55 0 54,FA 56 4 55,NP (.store 1 (.t 56) (.c (.int .i64 0)))] 0 [0,1,4]))) .skip)) gK)
theorem lF (E:Prg)(F:dW)(n:Nat)(Q:Exit->St->Prop)(st:St):RC.wp E F n eF Q st=WpH E F n eF Q st:=ak _
def mg:RFn:=⟨2,171,(SR [MV 6 1,OP 7 (.call 96 [.t 6]),MV 4 7] [0,1,4] (.seq (SR [MV 8 4,BI 9 .eql 8 0] [0,1,4,9] (.cond (.t 9) .ret .skip)) (.seq (SR [MV 10 0,OP 11 (.aF (.t 10)),FA 12 0 11,FA 13 5 12,LD 14 13] [0,1,4,14] (.cond (.t 14) (SR [MV 15 0,OP 16 (.call 97 [.t 15])] [0,1,4] (.reg [MV 17 0,OP 18 (.aF (.t 17)),FA 19 0 18,FA 20 4 19,NP (.store 1 (.t 20) (.c (.int .i64 0)))] 0 [0,1,4])) .skip)) eF))),[]⟩
theorem uZ:aK PG.P (aA PG.P 62 mg) 62=some mg:=by kernel_rfl
theorem tC {r:Int}{w:Nat}{K:ay->Prop}{Q:Exit->St->Prop}(ok:aR s)(hw:w=1\/w=2)(hf:s.x+w<=s.aa)(h:aB T0 T o s p)(hK:∀T',T.length<=T'.length->aB T0 T' o (jY s r w) p->K T')
  (hQ:∀env T',K T'->Q .normal ⟨env,T'⟩) {X:List (Nat × DV)} (hX:X=[]\/∃d,X=[(36,d)]) {wI:Int} (hwI:wI=w):WpH PG (tab []) 171 gK Q ⟨(0,.ptr o 0 0)::(1,.int .i32 r)::(4,.int .i64 wI)::X,T⟩:=by
 subst hwI
 obtain ⟨k0,q,tq,od,m,pr,d1,d2,d3,pa,t⟩:=id h
 have hb:=t.box
 unfold aN at hb
 have hr:=ok.g.r
 have hc:=ok.g.c
 have hy:=ok.y
 have hx:=ok.x
 have hin:=Vg ok
 have Aw:=ok.g.lim
 have x0:¬(s.x:Int)<0:=by omega
 have x1:(0:Int)<=s.x:=by omega
 have f2:(s.x:Int)<s.aa:=by omega
 have hg:=bf (L:=s.cells) (i:=s.y*s.aa+s.x) (by omega)
 have w5:IntKind.i64.wrap ((s.aa:Int)-1)=((s.aa-1:Nat):Int):=by rw[aO (by omega) (by omega)];omega
 have rs:=bx s.y s.aa
 have fin:∀{T3:ay},ax T T3 [q]->T3[q]?=some (some (.arr 3 (aq (cy (fL s r w) (s.y*s.aa) (s.y*s.aa+s.aa) (fh (((fL s r w).drop (s.y*s.aa)).take s.aa))))))->
   jT T0 T3 o q tq { s with cells:=cO (fL s r w) s.aa s.y} od m pr d1 d2 d3:=fun k hc=>by
  have e:cy (fL s r w) (s.y*s.aa) (s.y*s.aa+s.aa) (fh (((fL s r w).drop (s.y*s.aa)).take s.aa))=cO (fL s r w) s.aa s.y:=by unfold cO kP cM;rw[rs]
  rw[e] at hc
  exact t.aez k hc (by rw[fH (JJ ok r w) hy,kH])
 have Ze:∀{T3:ay} (kk:ax T T3 [q]),jT T0 T3 o q tq { s with cells:=cO (fL s r w) s.aa s.y} od m pr d1 d2 d3->∀(x':Nat) (wr:Bool),jY s r w={ s with cells:=cO (fL s r w) s.aa s.y,x:=x',wrap:=wr}->K (T3.set o (some (.box (aN { s with cells:=cO (fL s r w) s.aa s.y,x:=x',wrap:=wr} q tq od m pr d1 d2 d3)))):=fun kk t3 x' wr e=>
  hK _ (by simpa using kk.1) (by rw[e];exact .mk ((k0.BU kk t.nq).put t.no _) pa (t3.put rfl rfl rfl rfl rfl))
 rcases hw with rfl | rfl
 ·have w1:IntKind.i64.wrap ((s.x:Int)+1)=((s.x+1:Nat):Int):=by rw[aO (by omega) (by omega)];omega
  have f1:¬(s.aa:Int)<((s.x+1:Nat):Int):=by omega
  have bY:(aq s.cells).set (s.y*s.aa+s.x) [.int .i32 r,.int .u16 s.attr,.int .u8 0]=aq (fL s r 1):=by
   unfold fL;rw[if_neg (by decide),<-bM]
  rcases hX with rfl | ⟨dx,rfl⟩
  all_goals
   unfold WpH gK
   simp -implicitDefEqProofs -dsimp only[ah,ai hb,vcS,↓vcQ,simprocAttr]
   refine xp t.cells ok.g hy ?_
   simp -implicitDefEqProofs -dsimp only[ah,ai hb,ai t.cells,x0,x1,w1,f1,f2,hg,bY,vcS,↓vcQ,simprocAttr]
   refine rz (bZ t.cells _) (by rw[kH];omega) (by rw[kH];exact Aw.1) fun T3 h3 k3=>?_
   have kk:ax T T3 [q]:=(ax.set T q _).trans k3 (k:=[q]) (by simp) (by simp)
   have t3:=fin kk h3
   have hb3:=t3.box
   unfold aN at hb3
   rcases Nat.lt_or_ge (s.x+1) s.aa with c1 | c1
   ·have c1':¬(s.aa:Int)<=((s.x+1:Nat):Int):=by omega
    simp -implicitDefEqProofs -dsimp only[ah,ai hb3,w1,w5,c1',List.set_set,vcS,↓vcQ,simprocAttr]
    exact hQ _ _ (Ze kk t3 (s.x+1) s.wrap (by unfold jY;rw[if_neg (by omega)]))
   ·have c1':(s.aa:Int)<=((s.x+1:Nat):Int):=by omega
    simp -implicitDefEqProofs -dsimp only[ah,ai hb3,w1,w5,c1',List.set_set,vcS,↓vcQ,simprocAttr]
    have:=Ze kk t3 (s.aa-1) s.auto (by unfold jY;rw[if_pos (by omega)])
    repeat' (first | exact hQ _ _ this | apply And.intro)
 ·have w1:IntKind.i64.wrap ((s.x:Int)+2)=((s.x+2:Nat):Int):=by rw[aO (by omega) (by omega)];omega
  have w2:IntKind.i64.wrap ((s.x:Int)+1)=((s.x+1:Nat):Int):=by rw[aO (by omega) (by omega)];omega
  have f1:¬(s.aa:Int)<((s.x+2:Nat):Int):=by omega
  have f3:((s.x+1:Nat):Int)<s.aa:=by omega
  have x3:(0:Int)<=((s.x+1:Nat):Int):=by omega
  have hs1:=bM s.cells (s.y*s.aa+s.x) ⟨r,s.attr,0⟩
  have hs2:=bM (s.cells.set (s.y*s.aa+s.x) ⟨r,s.attr,0⟩) (s.y*s.aa+s.x) ⟨r,s.attr,1⟩
  have hs3:=bM (s.cells.set (s.y*s.aa+s.x) ⟨r,s.attr,1⟩) (s.y*s.aa+(s.x+1)) ⟨0,s.attr,2⟩
  have e3:((s.cells.set (s.y*s.aa+s.x) ⟨r,s.attr,1⟩).set (s.y*s.aa+(s.x+1)) ⟨0,s.attr,2⟩)=fL s r 2:=by
   unfold fL;rw[if_pos rfl];rfl
  rw[e3] at hs3
  have hg1:(aq (s.cells.set (s.y*s.aa+s.x) ⟨r,s.attr,0⟩))[s.y*s.aa+s.x]?=some [.int .i32 r,.int .u16 s.attr,.int .u8 0]:=by
   rw[<-bM];exact List.getElem?_set_self (by rw[az];omega)
  have hg2:=bf (L:=s.cells.set (s.y*s.aa+s.x) ⟨r,s.attr,1⟩) (i:=s.y*s.aa+(s.x+1)) (by simp;omega)
  rcases hX with rfl | ⟨dx,rfl⟩
  all_goals
   unfold WpH gK
   simp -implicitDefEqProofs -dsimp only[ah,ai hb,vcS,↓vcQ,simprocAttr]
   refine xp t.cells ok.g hy ?_
   simp -implicitDefEqProofs -dsimp only[ah,ai hb,ai t.cells,x0,x1,x3,w1,w2,f1,f2,f3,hg,hg1,hg2,hs1,hs2,hs3,List.set_set,fun y=>bn hb y t.oq,vcS,↓vcQ,simprocAttr]
   refine rz (L:=fL s r 2) (bZ t.cells _) (by rw[kH];omega) (by rw[kH];exact Aw.1) fun T3 h3 k3=>?_
   have kk:ax T T3 [q]:=(ax.set T q _).trans k3 (k:=[q]) (by simp) (by simp)
   have t3:=fin kk h3
   have hb3:=t3.box
   unfold aN at hb3
   rcases Nat.lt_or_ge (s.x+2) s.aa with c1 | c1
   ·have c1':¬(s.aa:Int)<=((s.x+2:Nat):Int):=by omega
    simp -implicitDefEqProofs -dsimp only[ah,ai hb3,w1,w5,c1',List.set_set,vcS,↓vcQ,simprocAttr]
    exact hQ _ _ (Ze kk t3 (s.x+2) s.wrap (by unfold jY;rw[if_neg (by omega)]))
   ·have c1':(s.aa:Int)<=((s.x+2:Nat):Int):=by omega
    simp -implicitDefEqProofs -dsimp only[ah,ai hb3,w1,w5,c1',List.set_set,vcS,↓vcQ,simprocAttr]
    have:=Ze kk t3 (s.aa-1) s.auto (by unfold jY;rw[if_pos (by omega)])
    repeat' (first | exact hQ _ _ this | apply And.intro)
theorem zC {r:Int}{w:Nat}{K:ay->Prop}{Q:Exit->St->Prop}(ok:aR s)(hwr:s.wrap=false)(hw:w=1\/w=2)(h:aB T0 T o s p)
  (hK:∀T',T.length<=T'.length->aB T0 T' o (if w=2/\s.x+1=s.aa then (if s.auto=false\/s.aa=1 then s else jY { cH s with x:=0} r 2) else jY s r w) p->K T')
  (hQ:∀env T',K T'->Q .normal ⟨env,T'⟩) (hQ2:∀env T',K T'->Q .ret ⟨env,T'⟩) {X:List (Nat × DV)} (hX:X=[]\/∃d,X=[(14,d)]) {wI:Int} (hwI:wI=w):WpH PG (tab []) 171 eF Q ⟨(0,.ptr o 0 0)::(1,.int .i32 r)::(4,.int .i64 wI)::X,T⟩:=by
 subst hwI
 obtain ⟨k0,q,tq,od,m,pr,d1,d2,d3,pa,t⟩:=id h
 have hb:=t.box
 unfold aN at hb
 have hr:=ok.g.r
 have hc:=ok.g.c
 have hx:=ok.x
 have w5:IntKind.i64.wrap ((s.aa:Int)-1)=((s.aa-1:Nat):Int):=by rw[aO (by omega) (by omega)];omega
 rcases hw with rfl | rfl
 ·rw[if_neg (by omega)] at hK
  rcases hX with rfl | ⟨dx,rfl⟩
  all_goals
   unfold WpH eF
   simp -implicitDefEqProofs -dsimp only[ah,ai hb,w5,↓fF,vcS,↓vcQ,simprocAttr]
   exact tC ok (.inl rfl) (by omega) h hK hQ (X:=[(36,.bool false)]) (.inr ⟨_,rfl⟩) rfl
 ·rcases Nat.lt_or_ge (s.x+1) s.aa with c1 | c1
  ·rw[if_neg (by omega)] at hK
   have c1':¬(s.x:Int)=((s.aa-1:Nat):Int):=by omega
   rcases hX with rfl | ⟨dx,rfl⟩
   all_goals
    unfold WpH eF
    simp -implicitDefEqProofs -dsimp only[ah,ai hb,w5,eq_false c1',↓fF,vcS,↓vcQ,simprocAttr]
    exact tC ok (.inr rfl) (by omega) h hK hQ (X:=[(36,.bool false)]) (.inr ⟨_,rfl⟩) rfl
  ·rw[if_pos (by omega)] at hK
   have c1':(s.x:Int)=((s.aa-1:Nat):Int):=by omega
   have n:=iy ok
   rcases Decidable.em (s.auto=false\/s.aa=1) with c2 | c2
   ·rw[if_pos c2] at hK
    have kk:=hK _ (Nat.le_refl _) h
    cases ha:s.auto with
    | false=>
     rw[ha] at hb
     rcases hX with rfl | ⟨dx,rfl⟩
     all_goals
      unfold WpH eF
      simp -implicitDefEqProofs -dsimp only[ah,ai hb,w5,eq_true c1',↓fF,vcS,↓vcQ,simprocAttr]
      exact hQ2 _ _ kk
    | true=>
     rw[ha] at hb
     have c3:(s.aa:Int)=1:=by rcases c2 with c2 | c2;rw[ha] at c2;cases c2;omega
     rcases hX with rfl | ⟨dx,rfl⟩
     all_goals
      unfold WpH eF
      simp -implicitDefEqProofs -dsimp only[ah,ai hb,w5,eq_true c1',eq_true c3,↓fF,vcS,↓vcQ,simprocAttr]
      exact hQ2 _ _ kk
   ·rw[if_neg c2] at hK
    have ha:s.auto=true:=by cases h:s.auto;exact (c2 (.inl h)).elim;rfl
    rw[ha] at hb
    have c3:¬(s.aa:Int)=1:=by omega
    rcases hX with rfl | ⟨dx,rfl⟩
    all_goals
     unfold WpH eF
     simp -implicitDefEqProofs -dsimp only[ah,ai hb,w5,eq_true c1',eq_false c3,↓fF,vcS,↓vcQ,simprocAttr]
     refine uC ok h fun T' l t'=>?_
     obtain ⟨k1,q',tq',od',m',pr',e1,e2,e3,pa',t2⟩:=t'
     have hb2:=t2.box
     unfold aN at hb2
     simp -implicitDefEqProofs -dsimp only[ah,ai hb2,↓fF,vcS,↓vcQ,simprocAttr]
     refine tC (T0:=T0) (s:={ cH s with x:=0}) (p:=p) (n.1.x0 n.2.2.2.2.1) (.inr rfl) (by show 0+2<=(cH s).aa;rw[n.2.2.1];omega) (.mk (k1.put t2.no _) pa' (t2.put rfl rfl rfl rfl rfl)) (fun T3 l3=>hK T3 (by simp at l3;omega)) hQ (.inl rfl) rfl
theorem QL {r:Int}(hr:-2147483648<=r/\r<=2147483647)(ok:aR s)(h:aB T0 T o s p)(hK:∀T',T.length<=T'.length->aB T0 T' o (je s r) p->K (.tup []) T') :
  aj PG 62 [.ptr o 0 0,.int .i32 r] T K:=by
 have hw2:dB r=0\/dB r=1\/dB r=2:=by unfold dB;split;exact .inl rfl;split;exact .inr (.inr rfl);exact .inr (.inl rfl)
 have n:=iy ok
 have wo:=qh ok
 cases hwr:s.wrap with
 | false=>
  have ew:gE s=s:=by unfold gE;rw[hwr];rfl
  refine aj.aE FOk.nil uZ (by simp[mg]) ?_
  unfold mg
  dsimp only
  simp -implicitDefEqProofs -dsimp only[ah,vcS,↓vcQ,simprocAttr]
  refine Z4 hr fun T1 k1=>?_
  have t1:=h.keep k1
  obtain ⟨k0,q,tq,od,m,pr,d1,d2,d3,pa,t⟩:=id t1
  have hb:=t.box
  unfold aN at hb
  rw[hwr] at hb
  unfold je at hK
  rcases hw2 with e | e
  ·rw[if_pos e] at hK
   rw[e]
   simp -implicitDefEqProofs -dsimp only[ah,vcS,↓vcQ,simprocAttr]
   exact ⟨k1.1,hK _ k1.1 t1⟩
  ·rw[if_neg (by omega),ew] at hK
   have e0:¬((dB r:Nat):Int)=0:=by omega
   simp -implicitDefEqProofs -dsimp only[ah,ai hb,eq_false e0,↓lF,vcS,↓vcQ,simprocAttr]
   refine zC (K:=fun T'=>T.length<=T'.length/\K (.tup []) T') ok hwr e t1 (fun T' l t'=>⟨Nat.le_trans k1.1 l,hK T' (Nat.le_trans k1.1 l) t'⟩) ?_ ?_ (X:=[(14,.bool false)]) (.inr ⟨_,rfl⟩) rfl
   ·exact fun _ _ h=>h
   ·exact fun _ _ h=>h
 | true=>
  have ew:gE s={ cH s with x:=0}:=by unfold gE;rw[hwr];rfl
  refine aj.aE FOk.nil uZ (by simp[mg]) ?_
  unfold mg
  dsimp only
  simp -implicitDefEqProofs -dsimp only[ah,vcS,↓vcQ,simprocAttr]
  refine Z4 hr fun T1 k1=>?_
  have t1:=h.keep k1
  obtain ⟨k0,q,tq,od,m,pr,d1,d2,d3,pa,t⟩:=id t1
  have hb:=t.box
  unfold aN at hb
  rw[hwr] at hb
  unfold je at hK
  rcases hw2 with e | e
  ·rw[if_pos e] at hK
   rw[e]
   simp -implicitDefEqProofs -dsimp only[ah,vcS,↓vcQ,simprocAttr]
   exact ⟨k1.1,hK _ k1.1 t1⟩
  ·rw[if_neg (by omega),ew] at hK
   have e0:¬((dB r:Nat):Int)=0:=by omega
   simp -implicitDefEqProofs -dsimp only[ah,ai hb,eq_false e0,↓lF,vcS,↓vcQ,simprocAttr]
   refine uC ok t1 fun T2 l2 t2=>?_
   obtain ⟨k2,q',tq',od',m',pr',e1,e2,e3,pa',t3⟩:=t2
   have hb2:=t3.box
   unfold aN at hb2
   simp -implicitDefEqProofs -dsimp only[ah,ai hb2,↓lF,vcS,↓vcQ,simprocAttr]
   have lt:T.length<=T2.length:=Nat.le_trans k1.1 l2
   refine zC (T0:=T0) (s:={ cH s with x:=0}) (p:=p) (K:=fun T'=>T.length<=T'.length/\K (.tup []) T') (n.1.x0 n.2.2.2.2.1) n.2.2.2.2.1 e (.mk (k2.put t3.no _) pa' (t3.put rfl rfl rfl rfl rfl)) (fun T' l t'=>?_) ?_ ?_ (.inl rfl) rfl
   ·have l':T.length<=T'.length:=by simp at l;omega
    rw[<-n.2.2.1,<-n.2.2.2.2.2.1] at hK
    exact ⟨l',hK T' l' t'⟩
   ·exact fun _ _ h=>h
   ·exact fun _ _ h=>h
def fM:RFn:=⟨3,152,.blk 0 (SR [MV 37 1,OP 38 (.bin .eql (.t 37) (.c (.int .u8 83))),MV 36 38] [0,1,2,36] (.cond (.t 36) (.cJ (.take (MV 39 0) [] (.take (MV 40 0) [] (.take (OP 41 (.aF (.t 40))) [] (.take (FA 42 0 41) [] (.take (FA 43 2 42) [] (.take (LD 44 43) [] (.take (MV 45 0) [] (.take (OP 46 (.aF (.t 45))) [] (.take (FA 47 0 46) [] (.take (FA 48 1 47) [] (.take (LD 49 48) [] (.take (MV 50 0) [] (.take (OP 51 (.aF (.t 50))) [] (.take (FA 52 0 51) [] (.take (FA 53 7 52) [] (.take (LD 54 53) [] (.take (MV 55 0) [] (.take (OP 56 (.aF (.t 55))) [] (.take (FA 57 0 56) [] (.take (FA 58 8 57) [] (.take (LD 59 58) [] (.take (MV 60 2) [] (.mid (OP 61 (.call 130 [.t 44,.t 49,.t 54,.t 59,.t 60])) (.take (OP 62 (.aF (.t 39))) [] (.take (FA 63 0 62) [] (.take (FA 64 2 63) [] (.op (SA 1 64 61) .done))))))))))))))))))))))))))) 0 []) (SR [MV 66 1,OP 67 (.bin .eql (.t 66) (.c (.int .u8 84))),MV 65 67] [0,1,2,65] (.cond (.t 65) (.cJ (.take (MV 68 0) [] (.take (MV 69 0) [] (.take (OP 70 (.aF (.t 69))) [] (.take (FA 71 0 70) [] (.take (FA 72 2 71) [] (.take (LD 73 72) [] (.take (MV 74 0) [] (.take (OP 75 (.aF (.t 74))) [] (.take (FA 76 0 75) [] (.take (FA 77 1 76) [] (.take (LD 78 77) [] (.take (MV 79 0) [] (.take (OP 80 (.aF (.t 79))) [] (.take (FA 81 0 80) [] (.take (FA 82 7 81) [] (.take (LD 83 82) [] (.take (MV 84 0) [] (.take (OP 85 (.aF (.t 84))) [] (.take (FA 86 0 85) [] (.take (FA 87 8 86) [] (.take (LD 88 87) [] (.take (MV 89 2) [] (.mid (OP 90 (.call 98 [.t 73,.t 78,.t 83,.t 88,.t 89])) (.take (OP 91 (.aF (.t 68))) [] (.take (FA 92 0 91) [] (.take (FA 93 2 92) [] (.op (SA 1 93 90) .done))))))))))))))))))))))))))) 0 []) (.seq (.cJ (.take (MV 95 0) [] (.take (OP 96 (.aF (.t 95))) [] (.take (FA 97 0 96) [] (.take (FA 98 3 97) [] (.take (LD 99 98) [] (.take (MV 100 0) [] (.take (OP 101 (.aF (.t 100))) [] (.take (FA 102 0 101) [] (.take (FA 103 7 102) [] (.take (LD 104 103) [] (.take (BT 105 .lss 99 104) [] (.take (MV 106 105) [] (.take (MG 107 0 106 false) [] (.take (OG 108 (.aF (.t 107)) 106 false) [] (.take (FG 109 0 108 106 false) [] (.take (FG 110 3 109 106 false) [] (.take (LG 111 110 106 false) [] (.take (MG 112 0 106 false) [] (.take (OG 113 (.aF (.t 112)) 106 false) [] (.take (FG 114 0 113 106 false) [] (.take (FG 115 8 114 106 false) [] (.take (LG 116 115 106 false) [] (.take (OG 117 (.bin .gtr (.t 111) (.t 116)) 106 false) [] (.take (OP 118 (.pick (.t 106) (.c (.bool true)) (.t 117))) [] (.take (MV 94 118) [] .done))))))))))))))))))))))))) 0 [0,1,2,94]) (.cond (.t 94) .skip (SR [MV 120 1,OP 121 (.bin .eql (.t 120) (.c (.int .u8 76))),MV 119 121] [0,2,119] (.cond (.t 119) (.cJ (.take (MV 122 0) [] (.take (MV 123 0) [] (.take (MV 124 0) [] (.take (OP 125 (.aF (.t 124))) [] (.take (FA 126 0 125) [] (.take (FA 127 2 126) [] (.take (LD 128 127) [] (.take (MV 129 0) [] (.take (OP 130 (.aF (.t 129))) [] (.take (FA 131 0 130) [] (.take (FA 132 1 131) [] (.take (LD 133 132) [] (.take (MV 134 0) [] (.take (OP 135 (.aF (.t 134))) [] (.take (FA 136 0 135) [] (.take (FA 137 3 136) [] (.take (LD 138 137) [] (.take (MV 139 0) [] (.take (OP 140 (.aF (.t 139))) [] (.take (FA 141 0 140) [] (.take (FA 142 8 141) [] (.take (LD 143 142) [] (.take (MV 144 2) [] (.mid (OP 145 (.call 98 [.t 128,.t 133,.t 138,.t 143,.t 144])) (.take (OP 146 (.aF (.t 122))) [] (.take (FA 147 0 146) [] (.take (FA 148 2 147) [] (.op (SA 1 148 145) (.take (OP 149 (.aF (.t 123))) [] (.take (FA 150 0 149) [] (.take (FA 151 4 150) [] (.op (NP (.store 1 (.t 151) (.c (.int .i64 0)))) .done)))))))))))))))))))))))))))))))) 0 []) (.cJ (.take (MV 6 0) [] (.take (MV 7 0) [] (.take (MV 8 0) [] (.take (OP 9 (.aF (.t 8))) [] (.take (FA 10 0 9) [] (.take (FA 11 2 10) [] (.take (LD 12 11) [] (.take (MV 13 0) [] (.take (OP 14 (.aF (.t 13))) [] (.take (FA 15 0 14) [] (.take (FA 16 1 15) [] (.take (LD 17 16) [] (.take (MV 18 0) [] (.take (OP 19 (.aF (.t 18))) [] (.take (FA 20 0 19) [] (.take (FA 21 3 20) [] (.take (LD 22 21) [] (.take (MV 23 0) [] (.take (OP 24 (.aF (.t 23))) [] (.take (FA 25 0 24) [] (.take (FA 26 8 25) [] (.take (LD 27 26) [] (.take (MV 28 2) [] (.mid (OP 29 (.call 130 [.t 12,.t 17,.t 22,.t 27,.t 28])) (.take (OP 30 (.aF (.t 6))) [] (.take (FA 31 0 30) [] (.take (FA 32 2 31) [] (.op (SA 1 32 29) (.take (OP 33 (.aF (.t 7))) [] (.take (FA 34 0 33) [] (.take (FA 35 4 34) [] (.op (NP (.store 1 (.t 35) (.c (.int .i64 0)))) .done)))))))))))))))))))))))))))))))) 0 []))))))))),[]⟩
theorem jm:aK PG.P (aA PG.P 102 fM) 102=some fM:=by kernel_rfl
def iw:RFn:=⟨3,49,.seq (SR [MV 6 2,BI 7 .eql 6 0,MV 8 7,MG 9 2 8 false,MG 10 0 8 false,OG 11 (.aF (.t 10)) 8 false,FG 12 0 11 8 false,FG 13 0 12 8 false,LG 14 13 8 false,OG 15 (.bin .gtr (.t 9) (.t 14)) 8 false,OP 16 (.pick (.t 8) (.c (.bool true)) (.t 15))] [0,1,2,16] (.cond (.t 16) (.reg [MV 17 0,OP 18 (.aF (.t 17)),FA 19 0 18,FA 20 0 19,LD 21 20,MV 2 21] 0 [0,1,2]) .skip)) (SR [MV 22 1,MV 23 2,BI 24 .sub 23 1,BT 25 .lss 22 24] [0,1,2,25] (.cond (.t 25) (.reg [MV 26 0,MV 27 0,MV 28 0,MV 29 0,MV 30 0,MV 31 1,MV 32 2,BI 33 .sub 32 1,OP 34 (.aF (.t 26)),FA 35 0 34,FA 36 7 35,SA 1 36 31,OP 37 (.aF (.t 27)),FA 38 0 37,FA 39 8 38,SA 1 39 33,OP 40 (.aF (.t 28)),FA 41 0 40,FA 42 3 41,NP (.store 1 (.t 42) (.c (.int .i64 0))),OP 43 (.aF (.t 29)),FA 44 0 43,FA 45 4 44,NP (.store 1 (.t 45) (.c (.int .i64 0))),OP 46 (.aF (.t 30)),FA 47 0 46,FA 48 5 47,NP (.store 1 (.t 48) (.c (.bool false)))] 0 []) .skip)),[]⟩
theorem nG:aK PG.P (aA PG.P 106 iw) 106=some iw:=by kernel_rfl
def va:RC:=(SR [BT 12 .lss 11 10] [0,1,10,11,12] (.seq (.cond (.t 12) .skip (.ext 0)) (.seq (.blk 1 (SR [MV 13 11,MV 4 13] [0,1,4,10,11] (SR [MV 14 1,BI 15 .eql 14 3,MV 16 15,MG 17 1 16 false,OG 18 (.bin .eql (.t 17) (.c (.int .i64 0))) 16 false,MG 19 18 16 false,MG 20 4 19 true,MG 21 0 19 true,OG 22 (.aF (.t 21)) 19 true,FG 23 0 22 19 true,FG 24 4 23 19 true,LG 25 24 19 true,OG 26 (.bin .eql (.t 20) (.t 25)) 19 true,OG 27 (.pick (.t 19) (.t 26) (.c (.bool false))) 16 false,OP 28 (.pick (.t 16) (.c (.bool true)) (.t 27))] [0,1,4,10,11,28] (.cond (.t 28) (.reg [MV 29 0,OP 30 (.aF (.t 29)),FA 31 0 30,FA 32 9 31,LD 33 32,MV 34 4,OP 35 (.aT 1 (.t 33) (.t 34)),NP (.store 1 (.t 35) (.c (.bool false)))] 0 [0,1,10,11]) .skip)))) (.reg [BI 36 .add 11 1,MV 11 36] 0 [0,1,10,11]))))
def rW:RFn:=⟨2,37,(SR [MV 5 0,OP 6 (.aF (.t 5)),FA 7 0 6,FA 8 9 7,LD 9 8,OP 10 (.len (.t 9)),OP 11 (.mov (.c (.int .i64 0)))] [0,1,10,11] (.blk 0 (.loop va))),[]⟩
theorem Ep:aK PG.P (aA PG.P 107 rW) 107=some rW:=by kernel_rfl
def Gq (s:Sc)(b n:Int):Sc:=
 if b=83 then { s with cells:=upF s.cells s.aa s.top s.bot n}
 else if b=84 then { s with cells:=dnF s.cells s.aa s.top s.bot n}
 else if s.y<s.top\/s.bot<s.y then s
 else if b=76 then { s with cells:=dnF s.cells s.aa s.y s.bot n,x:=0}
 else { s with cells:=upF s.cells s.aa s.y s.bot n,x:=0}
theorem Ga {n:Int}{K:DV->ay->Prop}(ok:aR s)(h:aB T0 T o s p)(hK:∀T',T.length<=T'.length->aB T0 T' o { s with cells:=upF s.cells s.aa s.top s.bot n} p->K (.tup []) T'):aj PG 102 [.ptr o 0 0,.int .u8 83,.int .i64 n] T K:=by
 obtain ⟨k0,q,tq,od,m,pr,d1,d2,d3,pa,t⟩:=h
 have hb:=t.box
 unfold aN at hb
 refine aj.aE FOk.nil jm (by simp[fM]) ?_
 unfold fM
 dsimp only
 simp -implicitDefEqProofs -dsimp only[ah,ai hb,vcS,↓vcQ,simprocAttr]
 refine TD t.cells ok.g ok.tb ok.b fun T' p hp hc k=>?_
 simp -implicitDefEqProofs -dsimp only[ah,ai (k.at hb (by simp)),vcS,↓vcQ,simprocAttr]
 exact ⟨by simpa using k.1,hK _ (by simpa using k.1) (.BS (s2:=s) pa k0 t k hp hc (m3 ok.g ok.b ok.tb) rfl rfl rfl)⟩
theorem F9 {n:Int}{K:DV->ay->Prop}(ok:aR s)(h:aB T0 T o s p)(hK:∀T',T.length<=T'.length->aB T0 T' o { s with cells:=dnF s.cells s.aa s.top s.bot n} p->K (.tup []) T'):aj PG 102 [.ptr o 0 0,.int .u8 84,.int .i64 n] T K:=by
 obtain ⟨k0,q,tq,od,m,pr,d1,d2,d3,pa,t⟩:=h
 have hb:=t.box
 unfold aN at hb
 refine aj.aE FOk.nil jm (by simp[fM]) ?_
 unfold fM
 dsimp only
 simp -implicitDefEqProofs -dsimp only[ah,ai hb,vcS,↓vcQ,simprocAttr]
 refine E3 t.cells ok.g ok.tb ok.b fun T' p hp hc k=>?_
 simp -implicitDefEqProofs -dsimp only[ah,ai (k.at hb (by simp)),vcS,↓vcQ,simprocAttr]
 exact ⟨by simpa using k.1,hK _ (by simpa using k.1) (.BS (s2:=s) pa k0 t k hp hc (nk ok.g ok.b ok.tb) rfl rfl rfl)⟩
theorem QJ {n:Int}{K:DV->ay->Prop}(ok:aR s)(hy:¬(s.y<s.top\/s.bot<s.y))(h:aB T0 T o s p)(hK:∀T',T.length<=T'.length->aB T0 T' o { s with cells:=dnF s.cells s.aa s.y s.bot n,x:=0} p->K (.tup []) T'):aj PG 102 [.ptr o 0 0,.int .u8 76,.int .i64 n] T K:=by
 obtain ⟨k0,q,tq,od,m,pr,d1,d2,d3,pa,t⟩:=h
 have hb:=t.box
 unfold aN at hb
 have y1:¬(s.y:Int)<s.top:=by omega
 have y2:¬(s.bot:Int)<s.y:=by omega
 refine aj.aE FOk.nil jm (by simp[fM]) ?_
 unfold fM
 dsimp only
 simp -implicitDefEqProofs -dsimp only[ah,ai hb,y1,y2,vcS,↓vcQ,simprocAttr]
 refine E3 t.cells ok.g (by omega) ok.b fun T' p hp hc k=>?_
 have kk:K (.tup []) (T'.set o (some (.box (aN { s with x:=0} p tq od m pr d1 d2 d3)))):=hK _ (by simpa using k.1) (.BS (s2:={ s with x:=0}) pa k0 t k hp hc (nk ok.g ok.b (by omega)) rfl rfl rfl)
 have kl:=k.1
 simp -implicitDefEqProofs -dsimp only[ah,ai (k.at hb (by simp)),List.set_set,vcS,↓vcQ,simprocAttr]
 repeat' (first | exact kk | (simpa using kl) | apply And.intro)
theorem QI {n:Int}{K:DV->ay->Prop}(ok:aR s)(hy:¬(s.y<s.top\/s.bot<s.y))(h:aB T0 T o s p)(hK:∀T',T.length<=T'.length->aB T0 T' o { s with cells:=upF s.cells s.aa s.y s.bot n,x:=0} p->K (.tup []) T'):aj PG 102 [.ptr o 0 0,.int .u8 77,.int .i64 n] T K:=by
 obtain ⟨k0,q,tq,od,m,pr,d1,d2,d3,pa,t⟩:=h
 have hb:=t.box
 unfold aN at hb
 have y1:¬(s.y:Int)<s.top:=by omega
 have y2:¬(s.bot:Int)<s.y:=by omega
 refine aj.aE FOk.nil jm (by simp[fM]) ?_
 unfold fM
 dsimp only
 simp -implicitDefEqProofs -dsimp only[ah,ai hb,y1,y2,vcS,↓vcQ,simprocAttr]
 refine TD t.cells ok.g (by omega) ok.b fun T' p hp hc k=>?_
 have kk:K (.tup []) (T'.set o (some (.box (aN { s with x:=0} p tq od m pr d1 d2 d3)))):=hK _ (by simpa using k.1) (.BS (s2:={ s with x:=0}) pa k0 t k hp hc (m3 ok.g ok.b (by omega)) rfl rfl rfl)
 have kl:=k.1
 simp -implicitDefEqProofs -dsimp only[ah,ai (k.at hb (by simp)),List.set_set,vcS,↓vcQ,simprocAttr]
 repeat' (first | exact kk | (simpa using kl) | apply And.intro)
theorem F8 {b:Int}(b1:¬b=83)(b2:¬b=84)(hy:s.y<s.top\/s.bot<s.y)(h:aB T0 T o s p)(hK:K (.tup []) T):aj PG 102 [.ptr o 0 0,.int .u8 b,.int .i64 n] T K:=by
 obtain ⟨k0,q,tq,od,m,pr,d1,d2,d3,pa,t⟩:=h
 have hb:=t.box
 unfold aN at hb
 rcases Nat.lt_or_ge s.y s.top with h1 | h1
 ·have y1:(s.y:Int)<s.top:=by omega
  refine aj.aE FOk.nil jm (by simp[fM]) ?_
  unfold fM
  dsimp only
  simp -implicitDefEqProofs -dsimp only[ah,ai hb,y1,eq_false b1,eq_false b2,vcS,↓vcQ,simprocAttr]
  exact hK
 ·have y1:¬(s.y:Int)<s.top:=by omega
  have y2:(s.bot:Int)<s.y:=by omega
  refine aj.aE FOk.nil jm (by simp[fM]) ?_
  unfold fM
  dsimp only
  simp -implicitDefEqProofs -dsimp only[ah,ai hb,y1,y2,eq_false b1,eq_false b2,vcS,↓vcQ,simprocAttr]
  exact hK
theorem yT {b:Int}(ok:aR s)(hb:b=76\/b=77\/b=83\/b=84)(h:aB T0 T o s p)(hK:∀T',T.length<=T'.length->aB T0 T' o (Gq s b n) p->K (.tup []) T'):aj PG 102 [.ptr o 0 0,.int .u8 b,.int .i64 n] T K:=by
 unfold Gq at hK
 rcases Decidable.em (s.y<s.top\/s.bot<s.y) with hy | hy
 ·rcases hb with rfl | rfl | rfl | rfl
  ·rw[if_neg (by decide),if_neg (by decide),if_pos hy] at hK
   exact F8 (by decide) (by decide) hy h (hK _ (Nat.le_refl _) h)
  ·rw[if_neg (by decide),if_neg (by decide),if_pos hy] at hK
   exact F8 (by decide) (by decide) hy h (hK _ (Nat.le_refl _) h)
  ·exact Ga ok h hK
  ·exact F9 ok h hK
 ·rcases hb with rfl | rfl | rfl | rfl
  ·rw[if_neg (by decide),if_neg (by decide),if_neg hy] at hK
   exact QJ ok hy h hK
  ·rw[if_neg (by decide),if_neg (by decide),if_neg hy] at hK
   exact QI ok hy h hK
  ·exact Ga ok h hK
  ·exact F9 ok h hK
def aaQ (s:Sc)(t b:Int):Sc:=
 let bt:=(if b=0\/(s.rows:Int)<b then (s.rows:Int) else b)-1
 if t<bt then { s with y:=0,x:=0,wrap:=false,top:=t.toNat,bot:=bt.toNat} else s
theorem M7 {tp b : Int} {K : DV -> ay -> Prop} (ok : aR s) (ht : 0 <= tp) (hb0 : 0 <= b) (h : aB T0 T o s p) (hK : ∀ T', T.length <= T'.length -> aB T0 T' o (aaQ s tp b) p -> K (.tup []) T') : aj PG 106 [.ptr o 0 0, .int .i64 tp, .int .i64 b] T K := by
  obtain ⟨k0, q, tq, od, m, pr, d1, d2, d3, pa, t⟩ := id h
  have hb := t.box
  unfold aN at hb
  have hr := ok.g.r
  unfold aaQ at hK
  dsimp only at hK
  have key : ∀ bt : Int, (0 <= bt /\ bt <= s.rows) -> (∀ T', T.length <= T'.length -> aB T0 T' o (if tp < bt - 1 then { s with y := 0, x := 0, wrap := false, top := tp.toNat, bot := (bt - 1).toNat } else s) p -> K (.tup []) T') ->
      IntKind.i64.wrap (bt - 1) = bt - 1 /\ (tp < bt - 1 -> K (.tup []) (T.set o (some (.box [.int .i64 s.rows, .int .i64 s.aa, .own q 0 s.cells.length, .int .i64 0, .int .i64 0, .bool false, .int .u16 s.attr, .int .i64 tp, .int .i64 (bt - 1), .own tq 0 s.aP.length,
        .int .i64 s.sy, .int .i64 s.sx, .int .u16 s.eg, .bool s.auto, .bool s.shown, .bool s.alt, od, .int .i64 s.oy, .int .i64 s.ox, .int .i64 m, .int .u8 pr, d1, d2, d3])))) /\ (¬ tp < bt - 1 -> K (.tup []) T) := fun bt hbt hK => by
    refine ⟨aO (by omega) (by omega), fun hc => ?_, fun hc => ?_⟩
    · rw[if_pos hc] at hK
      refine hK _ (by simp) (.mk (k0.put t.no _) pa (t.put ?_ rfl rfl rfl rfl))
      unfold aN
      dsimp only
      rw[Int.toNat_of_nonneg ht, Int.toNat_of_nonneg (show 0 <= bt - 1 by omega)]
      rfl
    · rw[if_neg hc] at hK
      exact hK _ (Nat.le_refl _) h
  rcases Decidable.em (b = 0) with h1 | h1
  · rw[show (if b = 0 \/ (s.rows : Int) < b then (s.rows : Int) else b) = s.rows from if_pos (.inl h1)] at hK
    obtain ⟨k1, k2, k3⟩ := key _ (by omega) hK
    refine aj.aE FOk.nil nG (by simp[iw]) ?_
    unfold iw
    dsimp only
    simp -implicitDefEqProofs -dsimp only[ah, ai hb, eq_true h1, k1, List.set_set, vcS, ↓vcQ, simprocAttr]
    exact ⟨fun c => ⟨by simp, k2 c⟩, k3⟩
  · rcases Decidable.em ((s.rows : Int) < b) with h2 | h2
    · rw[show (if b = 0 \/ (s.rows : Int) < b then (s.rows : Int) else b) = s.rows from if_pos (.inr h2)] at hK
      obtain ⟨k1, k2, k3⟩ := key _ (by omega) hK
      refine aj.aE FOk.nil nG (by simp[iw]) ?_
      unfold iw
      dsimp only
      simp -implicitDefEqProofs -dsimp only[ah, ai hb, eq_false h1, h2, k1, List.set_set, vcS, ↓vcQ, simprocAttr]
      exact ⟨fun c => ⟨by simp, k2 c⟩, k3⟩
    · rw[show (if b = 0 \/ (s.rows : Int) < b then (s.rows : Int) else b) = b from if_neg (by omega)] at hK
      obtain ⟨k1, k2, k3⟩ := key _ (by omega) hK
      refine aj.aE FOk.nil nG (by simp[iw]) ?_
      unfold iw
      dsimp only
      simp -implicitDefEqProofs -dsimp only[ah, ai hb, eq_false h1, h2, k1, List.set_set, vcS, ↓vcQ, simprocAttr]
      exact ⟨fun c => ⟨by simp, k2 c⟩, k3⟩
def kZ (s:Sc)(k:Int)(i:Nat):List Bool:=(List.range s.aP.length).map fun j=>if j<i/\(k=3\/(k=0/\j=s.x)) then false else s.aP.getD j false
theorem AQ (s:Sc)(k:Int)(i:Nat):(kZ s k i).length=s.aP.length:=by simp[kZ]
theorem ab4 (s:Sc)(k:Int):kZ s k 0=s.aP:=by
 refine List.ext_getElem (by simp[kZ]) fun i h1 h2=>?_
 simp[kZ,h2]
theorem DF {k:Int}{i:Nat}(h:¬(k=3\/(k=0/\i=s.x))):kZ s k (i+1)=kZ s k i:=by
 refine List.ext_getElem (by simp[kZ]) fun j h1 h2=>?_
 simp only[kZ,List.getElem_map,List.getElem_range]
 by_cases e:j=i
 ·subst e;rw[if_neg (fun hh=>h hh.2),if_neg (fun hh=>h hh.2)]
 ·have:(j<i+1/\(k=3\/(k=0/\j=s.x)))↔(j<i/\(k=3\/(k=0/\j=s.x))):=⟨fun hh=>⟨by omega,hh.2⟩,fun hh=>⟨by omega,hh.2⟩⟩
  simp only[this]
theorem Ug {k:Int}{i:Nat}(hi:i<s.aP.length)(h:k=3\/(k=0/\i=s.x)):(kZ s k i).set i false=kZ s k (i+1):=by
 refine List.ext_getElem (by simp[kZ]) fun j h1 h2=>?_
 rw[List.getElem_set]
 simp only[kZ,List.getElem_map,List.getElem_range]
 by_cases e:i=j
 ·subst e;rw[if_pos rfl,if_pos ⟨by omega,h⟩]
 ·rw[if_neg e]
  have:(j<i+1/\(k=3\/(k=0/\j=s.x)))↔(j<i/\(k=3\/(k=0/\j=s.x))):=⟨fun hh=>⟨by omega,hh.2⟩,fun hh=>⟨by omega,hh.2⟩⟩
  simp only[this]
def KU (s:Sc)(k:Int):Sc:={ s with aP:=kZ s k s.aP.length}
theorem QX {k:Int}(ok:aR s)(h:aB T0 T o s p)(hK:∀T',T.length<=T'.length->aB T0 T' o (KU s k) p->K (.tup []) T'):aj PG 107 [.ptr o 0 0,.int .i64 k] T K:=by
 obtain ⟨k0,q,tq,od,m,pr,d1,d2,d3,pa,t⟩:=id h
 have hb:=t.box
 unfold aN at hb
 have hc:=ok.g.c
 have htl:=ok.aP
 refine aj.aE FOk.nil Ep (by simp[rW]) ?_
 unfold rW
 dsimp only
 simp -implicitDefEqProofs -dsimp only[ah,ai hb,vcS,↓vcQ,simprocAttr]
 refine bk.inv FOk.nil (S:=fun i:Nat=>⟨[(0,.ptr o 0 0),(1,.int .i64 k),(10,.int .i64 s.aP.length),(11,.int .i64 i)],T.set tq (some (.arr 1 (bg (kZ s k i))))⟩)
  (I:=fun i=>i<=s.aP.length) (μ:=fun i=>s.aP.length-i) 0 (by omega) ?_ ?_
 ·simp -implicitDefEqProofs -dsimp only[an,ab4,vcS,↓vcQ,simprocAttr]
  rw[Xa t.aP]
  exact aH _
 ·intro i hi
  unfold va
  have ti:=t.tab (AQ s k i)
  have hbi:=ti.box
  have hti:=ti.aP
  unfold aN at hbi
  simp only[AQ] at hbi
  have i0:(0:Int)<=i:=by omega
  have w1:IntKind.i64.wrap ((i:Int)+1)=((i+1:Nat):Int):=by rw[aO (by omega) (by omega)];omega
  rcases Nat.lt_or_ge i s.aP.length with hlt | hge
  ·have hii:(i:Int)<s.aP.length:=by omega
   have hg:=fl (L:=kZ s k i) (i:=i) (by rw[AQ];exact hlt)
   have bY:(k=3\/(k=0/\i=s.x))->(bg (kZ s k i)).set i [.bool false]=bg (kZ s k (i+1)):=fun hh=>by rw[jg,Ug hlt hh]
   rcases Decidable.em (k=3) with c1 | c1
   ·have hs:=bY (.inl c1)
    simp -implicitDefEqProofs -dsimp only[ah,ai hbi,ai hti,i0,w1,hii,hg,eq_true c1,hs,aY,Nat.zero_add,an,List.set_set,vcS,↓vcQ,simprocAttr]
    exact ⟨i+1,⟨rfl,aH _⟩,hlt,by omega⟩
   ·rcases Decidable.em (k=0) with c2 | c2
    ·rcases Decidable.em (i=s.x) with c3 | c3
     ·have hs:=bY (.inr ⟨c2,c3⟩)
      have c3':(i:Int)=s.x:=by omega
      have e3:(¬(3:Int)=0):=by decide
      simp -implicitDefEqProofs -dsimp only[ah,ai hbi,ai hti,i0,w1,hii,hg,eq_false c1,eq_true c2,eq_true c3',hs,aY,Nat.zero_add,an,List.set_set,vcS,↓vcQ,simprocAttr]
      exact ⟨i+1,⟨rfl,aH _⟩,hlt,by omega⟩
     ·have c3':¬(i:Int)=s.x:=by omega
      have same:=DF (s:=s) (k:=k) (i:=i) (by omega)
      simp -implicitDefEqProofs -dsimp only[ah,ai hbi,ai hti,i0,w1,hii,hg,eq_false c1,eq_true c2,eq_false c3',aY,Nat.zero_add,an,List.set_set,vcS,↓vcQ,simprocAttr]
      exact ⟨i+1,⟨rfl,by rw[same];exact aH _⟩,hlt,by omega⟩
    ·have same:=DF (s:=s) (k:=k) (i:=i) (by omega)
     simp -implicitDefEqProofs -dsimp only[ah,ai hbi,ai hti,i0,w1,hii,hg,eq_false c1,eq_false c2,aY,Nat.zero_add,an,List.set_set,vcS,↓vcQ,simprocAttr]
     exact ⟨i+1,⟨rfl,by rw[same];exact aH _⟩,hlt,by omega⟩
  ·have hii:¬(i:Int)<s.aP.length:=by omega
   obtain rfl:i=s.aP.length:=by omega
   simp -implicitDefEqProofs -dsimp only[ah,hii,an,vcS,↓vcQ,simprocAttr]
   exact ⟨by simp,hK _ (by simp) (.mk (k0.put t.nt _) pa ti)⟩
end
end Go.Proofs.YtjmnbpilnneonaaGreatDoor
