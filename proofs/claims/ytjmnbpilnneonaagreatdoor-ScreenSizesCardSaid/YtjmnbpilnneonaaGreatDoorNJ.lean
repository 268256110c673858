/- Texts R18, R19, R20 in one. -/
import Derived.Test.YtjmnbpilnneonaaGreatDoorNI
import Derived.Test.YtjmnbpilnneonaaGreatDoorNB
set_option linter.unusedVariables false
set_option linter.unusedSimpArgs false
set_option maxRecDepth 10000
set_option linter.defProp false
namespace Go.Proofs.YtjmnbpilnneonaaGreatDoor
open Go.RowKit
noncomputable section
variable {l:List Int}
def s5:RC:=(.seq (SR [MV 11 5,MV 12 0,OP 13 (.len (.t 12)),BT 14 .lss 11 13] [0,1,5,14] (.cond (.t 14) .skip (.ext 0))) (.seq (.blk 1 (.seq (.cJ (.take (MV 17 0) [] (.take (MV 18 5) [] (.take (OP 19 (.aT 3 (.t 17) (.t 18))) [] (.take (LT 20 3 19) [] (.take (MV 21 1) [] (.take (MV 22 5) [] (.take (OP 23 (.aT 3 (.t 21) (.t 22))) [] (.take (LT 24 3 23) [] (.take (OP 25 (.eqS true [.i,.i,.i] (.t 20) (.t 24))) [] .done))))))))) 0 [0,1,5,25]) (.cond (.t 25) (SR [MB 4 false] [4] .ret) .skip))) (.reg [MV 15 5,BI 16 .add 15 1,MV 5 16] 0 [0,1,5])))
def oQ:RFn:=⟨2,26,(SR [MB 4 false] [0,1] (.seq (SR [MV 6 0,OP 7 (.len (.t 6)),MV 8 1,OP 9 (.len (.t 8)),BT 10 .neq 7 9] [0,1,10] (.cond (.t 10) (SR [MB 4 false] [4] .ret) .skip)) (.seq (SR [OP 5 (.mov (.c (.int .i64 0)))] [0,1,5] (.blk 0 (.loop s5))) (SR [MB 4 true] [4] .ret)))),[.t 4]⟩
theorem BC:aK PG.P (aA PG.P 18 oQ) 18=some oQ:=by kernel_rfl
def xP:RC:=(.seq (SR [MV 149 5,FA 150 9 2,LD 151 150,OP 152 (.len (.t 151)),BT 153 .lss 149 152] [2,3,5,153] (.cond (.t 153) .skip (.ext 0))) (.seq (.blk 1 (.seq (.cJ (.take (FA 156 9 2) [] (.take (LD 157 156) [] (.take (MV 158 5) [] (.take (OP 159 (.aT 1 (.t 157) (.t 158))) [] (.take (LD 160 159) [] (.take (FA 161 9 3) [] (.take (LD 162 161) [] (.take (MV 163 5) [] (.take (OP 164 (.aT 1 (.t 162) (.t 163))) [] (.take (LD 165 164) [] (.take (OP 166 (.eqB true (.t 160) (.t 165))) [] .done))))))))))) 0 [2,3,5,166]) (.cond (.t 166) (SR [MB 4 false] [4] .ret) .skip))) (.reg [MV 154 5,BI 155 .add 154 1,MV 5 155] 0 [2,3,5])))
def uG:RFn:=⟨2,167,(SR [OP 2 (.box 24 (.t 0)),OP 3 (.box 24 (.t 1)),MB 4 false] [2,3] (.seq (SR [FA 6 0 2,LD 7 6,FA 8 0 3,LD 9 8,BT 10 .neq 7 9,MV 11 10,FG 12 1 2 11 false,LG 13 12 11 false,FG 14 1 3 11 false,LG 15 14 11 false,OG 16 (.bin .neq (.t 13) (.t 15)) 11 false,OP 17 (.pick (.t 11) (.c (.bool true)) (.t 16)),MV 18 17,FG 19 3 2 18 false,LG 20 19 18 false,FG 21 3 3 18 false,LG 22 21 18 false,OG 23 (.bin .neq (.t 20) (.t 22)) 18 false,OP 24 (.pick (.t 18) (.c (.bool true)) (.t 23)),MV 25 24,FG 26 4 2 25 false,LG 27 26 25 false,FG 28 4 3 25 false,LG 29 28 25 false,OG 30 (.bin .neq (.t 27) (.t 29)) 25 false,OP 31 (.pick (.t 25) (.c (.bool true)) (.t 30)),MV 32 31,FG 33 5 2 32 false,LG 34 33 32 false,FG 35 5 3 32 false,LG 36 35 32 false,OG 37 (.eqB true (.t 34) (.t 36)) 32 false,OP 38 (.pick (.t 32) (.c (.bool true)) (.t 37)),MV 39 38,FG 40 6 2 39 false,LG 41 40 39 false,FG 42 6 3 39 false,LG 43 42 39 false,OG 44 (.bin .neq (.t 41) (.t 43)) 39 false,OP 45 (.pick (.t 39) (.c (.bool true)) (.t 44)),MV 46 45,FG 47 7 2 46 false,LG 48 47 46 false,FG 49 7 3 46 false,LG 50 49 46 false,OG 51 (.bin .neq (.t 48) (.t 50)) 46 false,OP 52 (.pick (.t 46) (.c (.bool true)) (.t 51)),MV 53 52,FG 54 8 2 53 false,LG 55 54 53 false,FG 56 8 3 53 false,LG 57 56 53 false,OG 58 (.bin .neq (.t 55) (.t 57)) 53 false,OP 59 (.pick (.t 53) (.c (.bool true)) (.t 58)),MV 60 59,FG 61 10 2 60 false,LG 62 61 60 false,FG 63 10 3 60 false,LG 64 63 60 false,OG 65 (.bin .neq (.t 62) (.t 64)) 60 false,OP 66 (.pick (.t 60) (.c (.bool true)) (.t 65)),MV 67 66,FG 68 11 2 67 false,LG 69 68 67 false,FG 70 11 3 67 false,LG 71 70 67 false,OG 72 (.bin .neq (.t 69) (.t 71)) 67 false,OP 73 (.pick (.t 67) (.c (.bool true)) (.t 72)),MV 74 73,FG 75 12 2 74 false,LG 76 75 74 false,FG 77 12 3 74 false,LG 78 77 74 false,OG 79 (.bin .neq (.t 76) (.t 78)) 74 false,OP 80 (.pick (.t 74) (.c (.bool true)) (.t 79)),MV 81 80,FG 82 13 2 81 false,LG 83 82 81 false,FG 84 13 3 81 false,LG 85 84 81 false,OG 86 (.eqB true (.t 83) (.t 85)) 81 false,OP 87 (.pick (.t 81) (.c (.bool true)) (.t 86)),MV 88 87,FG 89 14 2 88 false,LG 90 89 88 false,FG 91 14 3 88 false,LG 92 91 88 false,OG 93 (.eqB true (.t 90) (.t 92)) 88 false,OP 94 (.pick (.t 88) (.c (.bool true)) (.t 93)),MV 95 94,FG 96 15 2 95 false,LG 97 96 95 false,FG 98 15 3 95 false,LG 99 98 95 false,OG 100 (.eqB true (.t 97) (.t 99)) 95 false,OP 101 (.pick (.t 95) (.c (.bool true)) (.t 100)),MV 102 101,FG 103 17 2 102 false,LG 104 103 102 false,FG 105 17 3 102 false,LG 106 105 102 false,OG 107 (.bin .neq (.t 104) (.t 106)) 102 false,OP 108 (.pick (.t 102) (.c (.bool true)) (.t 107)),MV 109 108,FG 110 18 2 109 false,LG 111 110 109 false,FG 112 18 3 109 false,LG 113 112 109 false,OG 114 (.bin .neq (.t 111) (.t 113)) 109 false,OP 115 (.pick (.t 109) (.c (.bool true)) (.t 114)),MV 116 115,FG 117 9 2 116 false,LG 118 117 116 false,OG 119 (.len (.t 118)) 116 false,FG 120 9 3 116 false,LG 121 120 116 false,OG 122 (.len (.t 121)) 116 false,OG 123 (.bin .neq (.t 119) (.t 122)) 116 false,OP 124 (.pick (.t 116) (.c (.bool true)) (.t 123)),MV 125 124,FG 126 2 2 125 false,LG 127 126 125 false,FG 128 2 3 125 false,LG 129 128 125 false,OG 130 (.call 18 [.t 127,.t 129]) 125 false,OG 131 (.un .not (.t 130)) 125 false,OP 132 (.pick (.t 125) (.c (.bool true)) (.t 131)),MV 133 132,FG 134 16 2 133 false,LG 135 134 133 false,FG 136 16 3 133 false,LG 137 136 133 false,OG 138 (.call 18 [.t 135,.t 137]) 133 false,OG 139 (.un .not (.t 138)) 133 false,OP 140 (.pick (.t 133) (.c (.bool true)) (.t 139)),MV 141 140,FG 142 19 2 141 false,OG 143 (.load true 5 (.t 142)) 141 false,FG 144 19 3 141 false,OG 145 (.load true 5 (.t 144)) 141 false,OG 146 (.call 37 [.t 143,.t 145]) 141 false,OG 147 (.un .not (.t 146)) 141 false,OP 148 (.pick (.t 141) (.c (.bool true)) (.t 147))] [2,3,148] (.cond (.t 148) (SR [MB 4 false] [4] .ret) .skip)) (.seq (SR [OP 5 (.mov (.c (.int .i64 0)))] [2,3,5] (.blk 0 (.loop xP))) (SR [MB 4 true] [4] .ret)))),[.t 4]⟩
theorem Gw:aK PG.P (aA PG.P 15 uG) 15=some uG:=by kernel_rfl
theorem MI {T:ay}{s1 s2:Nat}{k1 k2:SK}{L:List Ce}{K:DV->ay->Prop}(h1:s1=3\/L=[])(h2:s2=3\/L=[])(hl:L.length<=1000000)(h:K (.bool true) T) :
  aj PG 18 [.sl s1 (aq L) k1,.sl s2 (aq L) k2] T K:=by
 refine aj.aE FOk.nil BC (by simp[oQ]) ?_
 unfold oQ
 dsimp only
 simp -implicitDefEqProofs -dsimp only[ah,az,vcS,↓vcQ,simprocAttr]
 refine bk.inv FOk.nil (S:=fun i:Nat=>⟨[(0,.sl s1 (aq L) k1),(1,.sl s2 (aq L) k2),(5,.int .i64 i)],T⟩)
  (I:=fun i=>i<=L.length) (μ:=fun i=>L.length-i) 0 (Nat.zero_le _) ?_ ?_
 ·simp -implicitDefEqProofs -dsimp only[an,vcS,↓vcQ,simprocAttr]
 ·intro i hi
  unfold s5
  have w1:IntKind.i64.wrap ((i:Int)+1)=((i+1:Nat):Int):=by rw[aO (by omega) (by omega)];omega
  rcases Nat.lt_or_ge i L.length with hlt | hge
  ·have hii:(i:Int)<L.length:=by omega
   have i0:(0:Int)<=i:=by omega
   have z1:s1=3:=by rcases h1 with h | h;exact h;subst h;simp at hlt
   have z2:s2=3:=by rcases h2 with h | h;exact h;subst h;simp at hlt
   subst z1 z2
   have hg:=bf hlt
   simp -implicitDefEqProofs -dsimp only[ah,az,hii,i0,hg,Nat.zero_add,w1,an,vcS,↓vcQ,simprocAttr]
   exact ⟨i+1,rfl,hlt,by omega⟩
  ·have hii:¬(i:Int)<L.length:=by omega
   simp -implicitDefEqProofs -dsimp only[ah,az,hii,an,vcS,↓vcQ,simprocAttr]
   exact h
def oA:List DV->Option aS
 | [.sl s1 r1 k1,.sl s2 r2 k2]=>some ⟨As s1 r1/\(s2=3\/r2=[])/\r1=r2,fun n=>(.bool true,[])⟩
 | _=>none
theorem IY (s1 s2:Nat)(r1 r2:List (List DV))(k1 k2:SK):oA [.sl s1 r1 k1,.sl s2 r2 k2]=some ⟨As s1 r1/\(s2=3\/r2=[])/\r1=r2,fun n=>(.bool true,[])⟩:=ak _
theorem AW (L:List Ce):aq L=[]->L=[]:=fun h=>by cases L with | nil=>rfl | cons a l=>simp[aq] at h
theorem Ja (args:List DV)(s:aS)(hs:oA args=some s)(hp:s.pre):av PG 18 args fun n r os=>r=(s.res n).1/\os=(s.res n).2:=by
 unfold oA at hs
 split at hs
 ·obtain rfl:=sj hs
  obtain ⟨⟨h1,⟨L,rfl⟩,h3⟩,h4,rfl⟩:=hp
  rw[az] at h3
  exact av.GX (fun n T=>by simp -implicitDefEqProofs -dsimp only[vcS,↓vcQ,simprocAttr]) fun T=>MI (h1.imp id (AW L)) (h4.imp id (AW L)) h3 rfl
 ·cases hs
def x6:RC:=(.seq (SR [MV 45 5,FA 46 2 2,LD 47 46,OP 48 (.len (.t 47)),BT 49 .lss 45 48] [2,3,5,49] (.cond (.t 49) .skip (.ext 0))) (.seq (.blk 1 (.seq (.cJ (.take (FA 52 2 2) [] (.take (LD 53 52) [] (.take (MV 54 5) [] (.take (OP 55 (.aT 1 (.t 53) (.t 54))) [] (.take (LD 56 55) [] (.take (FA 57 2 3) [] (.take (LD 58 57) [] (.take (MV 59 5) [] (.take (OP 60 (.aT 1 (.t 58) (.t 59))) [] (.take (LD 61 60) [] (.take (BT 62 .neq 56 61) [] .done))))))))))) 0 [2,3,5,62]) (.cond (.t 62) (SR [MB 4 false] [4] .ret) .skip))) (.reg [MV 50 5,BI 51 .add 50 1,MV 5 51] 0 [2,3,5])))
def vk:RFn:=⟨2,63,(SR [OP 2 (.box 5 (.t 0)),OP 3 (.box 5 (.t 1)),MB 4 false] [2,3] (.seq (SR [FA 6 0 2,LD 7 6,FA 8 0 3,LD 9 8,BT 10 .neq 7 9,MV 11 10,FG 12 1 2 11 false,LG 13 12 11 false,FG 14 1 3 11 false,LG 15 14 11 false,OG 16 (.bin .neq (.t 13) (.t 15)) 11 false,OP 17 (.pick (.t 11) (.c (.bool true)) (.t 16)),MV 18 17,FG 19 2 2 18 false,LG 20 19 18 false,OG 21 (.len (.t 20)) 18 false,FG 22 2 3 18 false,LG 23 22 18 false,OG 24 (.len (.t 23)) 18 false,OG 25 (.bin .neq (.t 21) (.t 24)) 18 false,OP 26 (.pick (.t 18) (.c (.bool true)) (.t 25)),MV 27 26,FG 28 3 2 27 false,LG 29 28 27 false,OG 30 (.conv .b2s (.t 29)) 27 false,FG 31 3 3 27 false,LG 32 31 27 false,OG 33 (.conv .b2s (.t 32)) 27 false,OG 34 (.bin .neq (.t 30) (.t 33)) 27 false,OP 35 (.pick (.t 27) (.c (.bool true)) (.t 34)),MV 36 35,FG 37 4 2 36 false,LG 38 37 36 false,OG 39 (.conv .b2s (.t 38)) 36 false,FG 40 4 3 36 false,LG 41 40 36 false,OG 42 (.conv .b2s (.t 41)) 36 false,OG 43 (.bin .neq (.t 39) (.t 42)) 36 false,OP 44 (.pick (.t 36) (.c (.bool true)) (.t 43))] [2,3,44] (.cond (.t 44) (SR [MB 4 false] [4] .ret) .skip)) (.seq (SR [OP 5 (.mov (.c (.int .i64 0)))] [2,3,5] (.blk 0 (.loop x6))) (SR [MB 4 true] [4] .ret)))),[.t 4]⟩
theorem GN:aK PG.P (aA PG.P 37 vk) 37=some vk:=by kernel_rfl
theorem XM {p:Pa}(h1:inK .i64 p.P)(h2:inK .u8 p.I)(h3:inK .u8 p.U)(hl:p.P.length<=1000/\p.I.length<=1000/\p.U.length<=1000):av PG 37 [paD p,paD p] fun n r os=>r=.bool true/\os=[]:=by
 obtain ⟨m,pr,P,I,U⟩:=p
 simp only at h1 h2 h3 hl
 refine av.di (res:=fun n=>(.bool true,[])) uk GN (by simp[vk]) fun n=>?_
 unfold vk
 dsimp only[paD]
 simp -implicitDefEqProofs -dsimp only[sZ,fI,aL,gw,iQ,iT,vcR,↓vcQ,if_true,if_false,implies_true,simprocAttr,ne_eq,exists_eq_left,exists_eq_left',Function.comp_apply]
 refine bk.inv uk (S:=fun i:Nat=>⟨[(2,.ptr n 0 0),(3,.ptr (n+1) 0 0),(5,.int .i64 i)],List.replicate n none++ [some (.box [.int .i64 m,.int .u8 pr,.sl 1 (af .i64 P) .any,.sl 1 (af .u8 I) .any,.sl 1 (af .u8 U) .any]),some (.box [.int .i64 m,.int .u8 pr,.sl 1 (af .i64 P) .any,.sl 1 (af .u8 I) .any,.sl 1 (af .u8 U) .any])]⟩) (I:=fun i=>i<=P.length) (μ:=fun i=>P.length-i) 0 (by omega) ?_ ?_
 ·simp -implicitDefEqProofs -dsimp only[gw,iQ,iT,vcR,↓vcQ,if_true,if_false,implies_true,simprocAttr,ne_eq,exists_eq_left,exists_eq_left',Function.comp_apply]
 ·intro i hi
  unfold x6
  simp -implicitDefEqProofs -dsimp only[fI,aL,gw,iQ,iT,vcR,↓vcQ,if_true,if_false,implies_true,simprocAttr,ne_eq,exists_eq_left,exists_eq_left',Function.comp_apply]
  exact fun h=>⟨⟨by omega,h⟩,by omega,⟨by omega,h⟩,by omega,i+1,by rw[aO] <;> omega,by omega,by omega⟩
def wC:List DV->Option aS
 | [.agg [.int .i64 m,.int .u8 pr,p,i,u],.agg [.int .i64 m',.int .u8 pr',p',i',u']]=>some ⟨((aD .i64 p/\aD .u8 i/\aD .u8 u)/\(aD .i64 p'/\aD .u8 i'/\aD .u8 u')/\(aG p).length<=1000/\(aG i).length<=1000/\(aG u).length<=1000)/\
   ((⟨m,pr,aG p,aG i,aG u⟩:Pa)=⟨m',pr',aG p',aG i',aG u'⟩),fun n=>(.bool true,[])⟩
 | _=>none
theorem PS (m pr m' pr':Int)(p i u p' i' u':DV):wC [.agg [.int .i64 m,.int .u8 pr,p,i,u],.agg [.int .i64 m',.int .u8 pr',p',i',u']]=some ⟨((aD .i64 p/\aD .u8 i/\aD .u8 u)/\(aD .i64 p'/\aD .u8 i'/\aD .u8 u')/\(aG p).length<=1000/\(aG i).length<=1000/\(aG u).length<=1000)/\
   ((⟨m,pr,aG p,aG i,aG u⟩:Pa)=⟨m',pr',aG p',aG i',aG u'⟩),fun n=>(.bool true,[])⟩:=ak _
theorem RF (args:List DV)(s:aS)(hs:wC args=some s)(hp:s.pre):av PG 37 args fun n r os=>r=(s.res n).1/\os=(s.res n).2:=by
 unfold wC at hs
 split at hs
 ·rename_i m pr p i u m' pr' p' i' u'
  obtain rfl:=sj hs
  obtain ⟨⟨⟨h1,h2,h3⟩,⟨g1,g2,g3⟩,hl⟩,he⟩:=hp
  obtain ⟨_,_,_,_,k1⟩:=aC h1
  obtain ⟨_,_,_,_,k2⟩:=aC h2
  obtain ⟨_,_,_,_,k3⟩:=aC h3
  injection he with e1 e2 e3 e4 e5
  refine (XM (p:=⟨m,pr,aG p,aG i,aG u⟩) k1 k2 k3 hl).wk ⟨⟨rfl,rfl,gR (de h1) h1,gR (de h2) h2,gR (de h3) h3,trivial⟩,⟨by rw[e1];rfl,by rw[e2];rfl, ?_, ?_, ?_,trivial⟩,trivial⟩
  ·simp only[e3];exact gR (de g1) g1
  ·simp only[e4];exact gR (de g2) g2
  ·simp only[e5];exact gR (de g3) g3
 ·cases hs
def TXs:FL:=(18,.o oA)::[(37,.o wC)]
theorem Vs:FOk PG (tab TXs):=FOk.cons (FOk.cons FOk.nil RF) Ja
theorem adJ (args:List DV):tab TXs 18 args=(oA args).map .o:=ak _
theorem adI (args:List DV):tab TXs 37 args=(wC args).map .o:=ak _
set_option maxHeartbeats 1000000 in
theorem DT {T:ay}{s:Sc}{p:Pa}{v w:DV}{K:DV->ay->Prop}(ok:aR s)(pk:cS p)(hv:aJ s p v)(hw:aJ s p w)(h:∀T',ax T T' []->K (.bool true) T'):aj PG 15 [v,w] T K:=by
 obtain ⟨z1,z2,z3,k1,k2,k3,m,pr,d1,d2,d3,sv,rfl⟩:=hv
 obtain ⟨y1,y2,y3,j1,j2,j3,m',pr',e1,e2,e3,sw,rfl⟩:=hw
 obtain ⟨o1,o2,o3⟩:=sv.pa.one
 obtain ⟨p1,p2,p3⟩:=sw.pa.one
 have hl:=ok.g.lim
 have hol:s.other.length<=1000000:=by
  cases ha:s.alt with
  | true=>exact (ok.alt ha).lim.1
  | false=>rw[(ok.non ha).1];simp
 have em:m'=m:=by rw[sv.pa.m,sw.pa.m]
 have epr:pr'=pr:=by rw[sv.pa.pr,sw.pa.pr]
 subst em epr
 have c1:As z1 (aq s.cells):=sI (.inl sv.z1) hl.1
 have c2:y1=3\/aq s.cells=[]:=.inl sw.z1
 have c3:As z3 (aq s.other):=sI sv.z3 hol
 have c4:y3=3\/aq s.other=[]:=sw.z3.imp id fun h=>by rw[h];rfl
 have a1:=sv.pa.i1
 have a2:=sv.pa.i2
 have a3:=sv.pa.i3
 have b1:=sw.pa.i1
 have b2:=sw.pa.i2
 have b3:=sw.pa.i3
 have f1:=sv.pa.e1
 have f2:=sv.pa.e2
 have f3:=sv.pa.e3
 have g1:=sw.pa.e1
 have g2:=sw.pa.e2
 have g3:=sw.pa.e3
 obtain ⟨_,_,_,l1,l2,l3,_⟩:=pk
 have ht:=ok.aP
 have hc:=ok.g.c
 have hz:=sv.z2
 have hy:=sw.z2
 subst hz hy
 unfold scD
 refine aj.aE Vs Gw (by simp[uG]) ?_
 unfold uG
 dsimp only
 simp -implicitDefEqProofs (maxSteps:=1000000) only[ah,adJ,adI,IY,PS,c1,c2,c3,c4,a1,a2,a3,b1,b2,b3,f1,f2,f3,g1,g2,g3,l1,l2,l3,aY,o1,o2,o3,p1,p2,p3,vcS,↓vcQ,simprocAttr]
 refine bk.inv Vs (S:=fun i:Nat=>⟨[(2,.ptr T.length 0 0),(3,.ptr (T.length+1) 0 0),(5,.int .i64 i)],T++ [some (.box [.int .i64 s.rows,.int .i64 s.aa,.sl z1 (aq s.cells) k1,.int .i64 s.y,.int .i64 s.x,.bool s.wrap,.int .u16 s.attr,.int .i64 s.top,.int .i64 s.bot,.sl 1 (bg s.aP) k2,.int .i64 s.sy,.int .i64 s.sx,.int .u16 s.eg,.bool s.auto,.bool s.shown,.bool s.alt,.sl z3 (aq s.other) k3,.int .i64 s.oy,.int .i64 s.ox,.int .i64 m',.int .u8 pr',d1,d2,d3]),some (.box [.int .i64 s.rows,.int .i64 s.aa,.sl y1 (aq s.cells) j1,.int .i64 s.y,.int .i64 s.x,.bool s.wrap,.int .u16 s.attr,.int .i64 s.top,.int .i64 s.bot,.sl 1 (bg s.aP) j2,.int .i64 s.sy,.int .i64 s.sx,.int .u16 s.eg,.bool s.auto,.bool s.shown,.bool s.alt,.sl y3 (aq s.other) j3,.int .i64 s.oy,.int .i64 s.ox,.int .i64 m',.int .u8 pr',e1,e2,e3])]⟩)
  (I:=fun i=>i<=s.aP.length) (μ:=fun i=>s.aP.length-i) 0 (Nat.zero_le _) ?_ ?_
 ·simp -implicitDefEqProofs -dsimp only[an,vcS,↓vcQ,simprocAttr]
 ·intro i hi
  unfold xP
  have w1:IntKind.i64.wrap ((i:Int)+1)=((i+1:Nat):Int):=by rw[aO (by omega) (by omega)];omega
  rcases Nat.lt_or_ge i s.aP.length with hlt | hge
  ·have hii:(i:Int)<s.aP.length:=by omega
   have i0:(0:Int)<=i:=by omega
   have hg:=fl hlt
   simp -implicitDefEqProofs -dsimp only[ah,aY,hii,i0,hg,Nat.zero_add,w1,an,vcS,↓vcQ,simprocAttr]
   exact ⟨i+1,rfl,hlt,by omega⟩
  ·have hii:¬(i:Int)<s.aP.length:=by omega
   simp -implicitDefEqProofs -dsimp only[ah,aY,hii,an,vcS,↓vcQ,simprocAttr]
   exact h _ (ax.app _ _ _)
def o9:RFn:=⟨3,25,(SR [OP 6 (.alloc ZS)] [0,1,2,6] (SR [MV 10 0,OP 11 (.bin .rem (.t 10) (.c (.int .u8 6))),OP 12 (.conv (.i2i .i64) (.t 11)),BI 13 .add 12 1,MV 14 1,OP 15 (.bin .rem (.t 14) (.c (.int .u8 9))),OP 16 (.conv (.i2i .i64) (.t 15)),BI 17 .add 16 1,OP 18 (.call 22 [.t 13,.t 17]),MV 9 18,OP 19 (.ext (.t 9) 0),OP 20 (.ext (.t 9) 1),OP 7 (.alloc ZS),SA 24 7 19,MV 8 20] [2,6,7] (.seq (.cJ (.take (LT 21 24 7) [] (.take (MV 22 2) [] (.op (OP 23 (.call 12 [.t 22])) (.mid (OP 24 (.call 14 [.t 21,.t 23])) (.op (SA 24 6 24) .done))))) 0 [6]) .ret))),[.c 6 true 24]⟩
theorem BL:aK PG.P (aA PG.P 9 o9) 9=some o9:=by kernel_rfl
theorem u8_in (h:inK .u8 l):∀n∈l,0<=n/\n<=255:=fun n hn=>h.2 n hn
theorem tE:∀c∈cT l,0<=c/\c<=255:=fun c hc=>by
 simp only[cT,List.mem_flatMap,qE,List.mem_map] at hc
 obtain ⟨k,_,b,_,rfl⟩:=hc
 have:=b.toNat_lt
 omega
theorem m4 (l:List Int):(cT l).length<=20*l.length:=by
 induction l with
 | nil=>simp[cT]
 | cons a l ih=>
  have:(qE (gZ.getD (a % 69).toNat [])).length<=20:=by
   rw[Dh]
   rcases Nat.lt_or_ge (a % 69).toNat gZ.length with h | h
   ·rw[List.getD_eq_getElem?_getD,List.getElem?_eq_getElem h]
    exact (by decide:∀s∈gZ,s.length<=20) _ (List.getElem_mem h)
   ·rw[List.getD_eq_getElem?_getD,List.getElem?_eq_none h];simp
  have e:cT (a::l)=qE (gZ.getD (a % 69).toNat [])++cT l:=rfl
  rw[e,List.length_append,List.length_cons]
  omega
theorem wN (h:l.length<=100):inK .u8 (cT l):=lG (by have:=m4 l;omega) tE
theorem ad5 {jQ:Nat}{k_l:SK}(Av:jQ=1\/l=[])(E0:inK .u8 l)(hp:l.length<=100) :
  av PG 12 [.sl jQ (af .u8 l) k_l] fun n RR OO=>RR=((.sl 1 (af .u8 (cT l)) .any,[]):DV × ay).1/\OO=((.sl 1 (af .u8 (cT l)) .any,[]):DV × ay).2:=Ro Av (u8_in E0) hp
def PR:List DV->Option aS
 | [a_l]=>some ⟨aD .u8 a_l/\(aG a_l).length<=100,fun n=>((.sl 1 (af .u8 (cT (aG a_l))) .any,[]))⟩
 | _=>none
theorem LF (a_l:DV):PR [a_l]=some ⟨aD .u8 a_l/\(aG a_l).length<=100,fun n=>((.sl 1 (af .u8 (cT (aG a_l))) .any,[]))⟩:=ak _
theorem acT (args:List DV)(s:aS)(hs:PR args=some s)(hp:s.pre):av PG 12 args fun n r os=>r=(s.res n).1/\os=(s.res n).2:=by
 unfold PR at hs
 split at hs
 ·rename_i a_l
  obtain rfl:=sj hs
  obtain ⟨tV,hp⟩:=hp
  obtain ⟨JK,tR,tY,tX,tW⟩:=aC tV
  have this:=ad5 (k_l:=tR) tX tW hp
  rw[<-tY] at this
  exact this
 ·cases hs
def TSb:FL:=(12,PR)::[]
theorem Vv:FOk PG (tab TSb):=FOk.cons (FOk.nil) acT
theorem PK (args:List DV):tab TSb 12 args=(PR args).map .o:=ak _
def adK:=J @PK<|@LF
theorem Vx (args:List DV):tab TSb 22 args=none:=ak _
theorem Vw (args:List DV):tab TSb 14 args=none:=ak _
def scX (r c:Int)(l:List Int):Sc × Pa:=(cT l).foldl eJ (newF ((r % 6).toNat+1) ((c % 9).toNat+1),pa0 0)
theorem acS {r c:Int}:ScF (scX r c l):=AJ (Kk (by omega) (by omega)) tE
theorem Nn {T:ay}{r c:Int}{sz:Nat}{sk:SK}{K:DV->ay->Prop}(hr:0<=r/\r<=255)(hc:0<=c/\c<=255)(hs:sz=1\/l=[])(hk:inK .u8 l)(hl:l.length<=100)(h:∀T' v,ax T T' []->aJ (scX r c l).1 (scX r c l).2 v->K v T') :
  aj PG 9 [.int .u8 r,.int .u8 c,.sl sz (af .u8 l) sk] T K:=by
 have er:r.tmod 6=r % 6:=Int.tmod_eq_emod_of_nonneg hr.1
 have ec:c.tmod 9=c % 9:=Int.tmod_eq_emod_of_nonneg hc.1
 have w1:IntKind.u8.wrap (r % 6)=r % 6:=wU8 (by omega) (by omega)
 have w2:IntKind.u8.wrap (c % 9)=c % 9:=wU8 (by omega) (by omega)
 have w3:IntKind.i64.wrap (r % 6)=r % 6:=aO (by omega) (by omega)
 have w4:IntKind.i64.wrap (c % 9)=c % 9:=aO (by omega) (by omega)
 have w5:IntKind.i64.wrap (r % 6+1)=(((r % 6).toNat+1:Nat):Int):=by rw[aO (by omega) (by omega)];omega
 have w6:IntKind.i64.wrap (c % 9+1)=(((c % 9).toNat+1:Nat):Int):=by rw[aO (by omega) (by omega)];omega
 refine aj.aE Vv BL (by simp[o9]) ?_
 unfold o9
 dsimp only
 simp -implicitDefEqProofs -dsimp only[ah,Vx,Vw,er,ec,w1,w2,w3,w4,w5,w6,vcS,↓vcQ,simprocAttr]
 refine Qj (by omega) (by omega) fun T1 v g1 hv'=>?_
 have i1:aD .u8 (.sl sz (af .u8 l) sk):=aQ hs hk
 have hsl:=m4 l
 have hv2:=hv'
 obtain ⟨y1,y2,y3,j1,j2,j3,m',pr',e1,e2,e3,sv',rfl⟩:=hv'
 obtain ⟨p1,p2,p3⟩:=sv'.pa.one
 have hfd:(cT l).foldl eJ (newF ((r % 6).toNat+1) ((c % 9).toNat+1),pa0 0)=scX r c l:=rfl
 have hF0:ScF (newF ((r % 6).toNat+1) ((c % 9).toNat+1),pa0 0):=Kk (by omega) (by omega)
 generalize newF ((r % 6).toNat+1) ((c % 9).toNat+1)=s0 at *
 unfold scD at hv2 ⊢
 have hb:=g1.at (aZ T [] (some (Ob.box _))) (by simp)
 simp -implicitDefEqProofs -dsimp only[ah,ai hb,adK,i1,aL,hl,Vx,Vw,p1,p2,p3,vcS,↓vcQ,simprocAttr]
 refine LN (s:=s0) (p:=pa0 0) hF0 hv2 (.inl rfl) (wN hl) (by omega) fun T2 v2 g2 hv3=>?_
 rw[hfd] at hv3
 have hv4:=hv3
 obtain ⟨y1,y2,y3,j1,j2,j3,m',pr',e1,e2,e3,sv',rfl⟩:=hv3
 obtain ⟨p1,p2,p3⟩:=sv'.pa.one
 have hb2:=g2.at (hO hb _) (by simp)
 unfold scD at hv4 ⊢
 simp -implicitDefEqProofs -dsimp only[ah,ai hb2,p1,p2,p3,vcS,↓vcQ,simprocAttr]
 have kk:ax T T2 []:=(((ax.app T _ []).new g1 (by simp)).dU _).new g2 (by simp)
 exact gI (kk.put (Dd.ge (Nat.le_refl _)) _) fun q=>h _ _ q hv4
theorem uc:∀{A B:List Ce},aq A=aq B->A=B
 | [],[],_=>rfl
 | [],_::_,h=>by simp[aq] at h
 | _::_,[],h=>by simp[aq] at h
 | a::A,b::B,h=>by
  simp only[aq,List.map_cons,List.cons.injEq,Ce.row,DV.int.injEq,true_and,and_true] at h
  obtain ⟨⟨h1,h2,h3⟩,h4⟩:=h
  rw[uc (A:=A) (B:=B) h4]
  obtain ⟨r,q,t⟩:=a
  obtain ⟨r',q',t'⟩:=b
  simp only at h1 h2 h3
  rw[h1,h2,h3]
theorem A3:∀{A B:List Bool},bg A=bg B->A=B
 | [],[],_=>rfl
 | [],_::_,h=>by simp[bg] at h
 | _::_,[],h=>by simp[bg] at h
 | a::A,b::B,h=>by
  simp only[bg,List.map_cons,List.cons.injEq,DV.bool.injEq,and_true] at h
  obtain ⟨h1,h4⟩:=h
  rw[A3 (A:=A) (B:=B) h4,h1]
theorem aJ.inj {x y:Sc × Pa}{v:DV}(h:aJ x.1 x.2 v)(g:aJ y.1 y.2 v):x=y:=by
 obtain ⟨s,p⟩:=x
 obtain ⟨s',p'⟩:=y
 obtain ⟨z1,z2,z3,k1,k2,k3,m,pr,d1,d2,d3,sv,rfl⟩:=h
 obtain ⟨y1,y2,y3,j1,j2,j3,m',pr',e1,e2,e3,sw,ev⟩:=g
 have ev:=DV.agg.inj ev
 unfold scD at ev
 simp only[List.cons.injEq,DV.int.injEq,DV.sl.injEq,DV.bool.injEq,true_and,and_true] at ev
 obtain ⟨f0,f1,⟨_,f2,_⟩,f3,f4,f5,f6,f7,f8,⟨_,f9,_⟩,f10,f11,f12,f13,f14,f15,⟨_,f16,_⟩,f17,f18,f19,f20,f21,f22,f23⟩:=ev
 have f2:=uc f2
 have f9:=A3 f9
 have f16:=uc f16
 subst f19 f20 f21 f22 f23
 have a1:=sv.pa
 have a2:=sw.pa
 have ep:p=p':=by
  obtain ⟨m1,p1,P1,I1,U1⟩:=p
  obtain ⟨m2,p2,P2,I2,U2⟩:=p'
  have b1:=a1.m;have b2:=a2.m;have b3:=a1.pr;have b4:=a2.pr
  have b5:=a1.e1;have b6:=a2.e1;have b7:=a1.e2;have b8:=a2.e2;have b9:=a1.e3;have b10:=a2.e3
  simp only at b1 b2 b3 b4 b5 b6 b7 b8 b9 b10
  simp only[Pa.mk.injEq]
  exact ⟨by rw[<-b1,<-b2],by rw[<-b3,<-b4],by rw[<-b5,<-b6],by rw[<-b7,<-b8],by rw[<-b9,<-b10]⟩
 have es:s=s':=by
  obtain ⟨g0,g1,g2,g3,g4,g5,g6,g7,g8,g9,g10,g11,g12,g13,g14,g15,g16,g17,g18⟩:=s
  obtain ⟨h0,h1,h2,h3,h4,h5,h6,h7,h8,h9,h10,h11,h12,h13,h14,h15,h16,h17,h18⟩:=s'
  simp only at f0 f1 f2 f3 f4 f5 f6 f7 f8 f9 f10 f11 f12 f13 f14 f15 f16 f17 f18
  simp only[Sc.mk.injEq]
  exact ⟨by omega,by omega,f2,by omega,by omega,f5,f6,by omega,by omega,f9,by omega,by omega,f12,f13,f14,f15,f16,by omega,by omega⟩
 rw[ep,es]
end
end Go.Proofs.YtjmnbpilnneonaaGreatDoor
