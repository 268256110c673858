/- Texts R14 in one. -/
import Derived.Test.YtjmnbpilnneonaaGreatDoorNG
import Derived.Test.YtjmnbpilnneonaaGreatDoorN8
set_option linter.unusedVariables false
set_option linter.unusedSimpArgs false
set_option maxRecDepth 10000
namespace Go.Proofs.YtjmnbpilnneonaaGreatDoor
open Go.RowKit
variable {ps:List Int}{sz:Nat}{sk:SK}{T:ay}{s:Sc}{p:Pa}{v:DV}{n mm k:Int}{K:DV->ay->Prop}
noncomputable def tH:RC:=(.seq (SR [MV 258 12,MV 259 2,OP 260 (.len (.t 259)),BT 261 .lss 258 260] [2,3,6,12,261] (.cond (.t 261) .skip (.ext 1))) (.seq (.blk 2 (.cJ (.take (FA 264 6 3) [] (.take (LD 265 264) [] (.take (MV 266 2) [] (.take (MV 267 12) [] (.take (OP 268 (.aT 1 (.t 266) (.t 267))) [] (.take (LD 269 268) [] (.mid (OP 270 (.call 123 [.t 265,.t 269])) (.take (FA 271 6 3) [] (.op (SA 1 271 270) .done))))))))) 0 [2,3,6,12])) (.reg [MV 262 12,BI 263 .add 262 1,MV 12 263] 0 [2,3,6,12])))
noncomputable def aU:RFn:=⟨3,273,(SR [OP 3 (.box 24 (.t 0)),OP 6 (.alloc ZS)] [1,2,3,6] (SR [MV 13 2,OP 14 (.call 116 [.t 13,.c (.int .i64 0),.c (.int .i64 1)]),MV 15 2,OP 16 (.call 116 [.t 15,.c (.int .i64 1),.c (.int .i64 1)]),MV 17 2,OP 18 (.call 116 [.t 17,.c (.int .i64 0),.c (.int .i64 0)]),MV 7 14,MV 8 16,MV 9 18] [1,2,3,6,7,8,9] (.seq (SR [MV 19 1] [1,2,3,6,7,8,9,19] (.blk 0 (SR [OP 21 (.bin .eql (.t 19) (.c (.int .u8 65))),MV 20 21] [1,2,3,6,7,8,9,19,20] (.cond (.t 20) (SR [LT 22 24 3,FA 23 3 3,LD 24 23,MV 25 7,BT 26 .sub 24 25,FA 27 4 3,LD 28 27,OP 29 (.call 117 [.t 22,.t 26,.t 28]),SA 24 6 29] [6] .ret) (SR [OP 31 (.bin .eql (.t 19) (.c (.int .u8 66))),MV 30 31] [1,2,3,6,7,8,9,19,30] (.cond (.t 30) (SR [LT 32 24 3,FA 33 3 3,LD 34 33,MV 35 7,BT 36 .add 34 35,FA 37 4 3,LD 38 37,OP 39 (.call 117 [.t 32,.t 36,.t 38]),SA 24 6 39] [6] .ret) (SR [OP 41 (.bin .eql (.t 19) (.c (.int .u8 67))),MV 40 41] [1,2,3,6,7,8,9,19,40] (.cond (.t 40) (SR [LT 42 24 3,FA 43 3 3,LD 44 43,FA 45 4 3,LD 46 45,MV 47 7,BT 48 .add 46 47,OP 49 (.call 117 [.t 42,.t 44,.t 48]),SA 24 6 49] [6] .ret) (SR [OP 51 (.bin .eql (.t 19) (.c (.int .u8 68))),MV 50 51] [1,2,3,6,7,8,9,19,50] (.cond (.t 50) (SR [LT 52 24 3,FA 53 3 3,LD 54 53,FA 55 4 3,LD 56 55,MV 57 7,BT 58 .sub 56 57,OP 59 (.call 117 [.t 52,.t 54,.t 58]),SA 24 6 59] [6] .ret) (.seq (SR [OP 61 (.bin .eql (.t 19) (.c (.int .u8 71))),MV 60 61] [1,2,3,6,7,8,9,19,60] (.cond (.t 60) .skip (.reg [OP 62 (.bin .eql (.t 19) (.c (.int .u8 96))),MV 60 62] 0 [1,2,3,6,7,8,9,19,60]))) (.cond (.t 60) (SR [LT 63 24 3,FA 64 3 3,LD 65 64,MV 66 7,BI 67 .sub 66 1,OP 68 (.call 117 [.t 63,.t 65,.t 67]),SA 24 6 68] [6] .ret) (SR [OP 70 (.bin .eql (.t 19) (.c (.int .u8 100))),MV 69 70] [1,2,3,6,7,8,9,19,69] (.cond (.t 69) (SR [LT 71 24 3,MV 72 7,BI 73 .sub 72 1,FA 74 4 3,LD 75 74,OP 76 (.call 117 [.t 71,.t 73,.t 75]),SA 24 6 76] [6] .ret) (.seq (SR [OP 78 (.bin .eql (.t 19) (.c (.int .u8 72))),MV 77 78] [1,2,3,6,7,8,9,19,77] (.cond (.t 77) .skip (.reg [OP 79 (.bin .eql (.t 19) (.c (.int .u8 102))),MV 77 79] 0 [1,2,3,6,7,8,9,19,77]))) (.cond (.t 77) (SR [LT 80 24 3,MV 81 7,BI 82 .sub 81 1,MV 83 8,BI 84 .sub 83 1,OP 85 (.call 117 [.t 80,.t 82,.t 84]),SA 24 6 85] [6] .ret) (.seq (SR [OP 87 (.bin .eql (.t 19) (.c (.int .u8 74))),MV 86 87] [1,2,3,6,7,9,19,86] (.cond (.t 86) .skip (.reg [OP 88 (.bin .eql (.t 19) (.c (.int .u8 75))),MV 86 88] 0 [1,2,3,6,7,9,19,86]))) (.cond (.t 86) (SR [LT 89 24 3,MV 90 1,OP 91 (.bin .eql (.t 90) (.c (.int .u8 75))),MV 92 9,OP 93 (.call 118 [.t 89,.t 91,.t 92]),SA 24 6 93] [6] .ret) (.seq (SR [OP 95 (.bin .eql (.t 19) (.c (.int .u8 76))),MV 94 95] [1,2,3,6,7,9,19,94] (.cond (.t 94) .skip (.reg [OP 96 (.bin .eql (.t 19) (.c (.int .u8 77))),MV 94 96] 0 [1,2,3,6,7,9,19,94]))) (.cond (.t 94) (SR [FA 97 5 3,NP (.store 1 (.t 97) (.c (.bool false)))] [1,3,6,7] (SR [FA 98 3 3,LD 99 98,FA 100 7 3,LD 101 100,BT 102 .geq 99 101,MV 103 102,FG 104 3 3 103 true,LG 105 104 103 true,FG 106 8 3 103 true,LG 107 106 103 true,OG 108 (.bin .leq (.t 105) (.t 107)) 103 true,OP 109 (.pick (.t 103) (.t 108) (.c (.bool false)))] [1,3,6,7,109] (.cond (.t 109) (SR [FA 110 4 3,NP (.store 1 (.t 110) (.c (.int .i64 0)))] [1,3,6,7] (SR [MV 111 1,OP 112 (.bin .eql (.t 111) (.c (.int .u8 76)))] [3,6,7,112] (.cond (.t 112) (.reg [FA 113 2 3,LD 114 113,FA 115 1 3,LD 116 115,FA 117 3 3,LD 118 117,FA 119 8 3,LD 120 119,MV 121 7,OP 122 (.call 115 [.t 114,.t 116,.t 118,.t 120,.t 121]),FA 123 2 3,SA 1 123 122] 0 [3,6]) (.reg [FA 124 2 3,LD 125 124,FA 126 1 3,LD 127 126,FA 128 3 3,LD 129 128,FA 130 8 3,LD 131 130,MV 132 7,OP 133 (.call 119 [.t 125,.t 127,.t 129,.t 131,.t 132]),FA 134 2 3,SA 1 134 133] 0 [3,6])))) .skip))) (SR [OP 136 (.bin .eql (.t 19) (.c (.int .u8 64))),MV 135 136] [2,3,6,7,9,19,135] (.cond (.t 135) (.reg [FA 137 2 3,LD 138 137,FA 139 1 3,LD 140 139,FA 141 3 3,LD 142 141,FA 143 4 3,LD 144 143,MV 145 7,OP 146 (.call 120 [.t 138,.t 140,.t 142,.t 144,.t 145]),FA 147 2 3,SA 1 147 146,FA 148 5 3,NP (.store 1 (.t 148) (.c (.bool false)))] 0 [3,6]) (SR [OP 150 (.bin .eql (.t 19) (.c (.int .u8 80))),MV 149 150] [2,3,6,7,9,19,149] (.cond (.t 149) (.reg [FA 151 2 3,LD 152 151,FA 153 1 3,LD 154 153,FA 155 3 3,LD 156 155,FA 157 4 3,LD 158 157,MV 159 7,OP 160 (.call 121 [.t 152,.t 154,.t 156,.t 158,.t 159]),FA 161 2 3,SA 1 161 160,FA 162 5 3,NP (.store 1 (.t 162) (.c (.bool false)))] 0 [3,6]) (SR [OP 164 (.bin .eql (.t 19) (.c (.int .u8 88))),MV 163 164] [2,3,6,7,9,19,163] (.cond (.t 163) (.reg [FA 165 2 3,LD 166 165,FA 167 1 3,LD 168 167,FA 169 3 3,LD 170 169,FA 171 4 3,LD 172 171,FA 173 4 3,LD 174 173,MV 175 7,BT 176 .add 174 175,OP 177 (.call 122 [.t 166,.t 168,.t 170,.t 172,.t 176]),FA 178 2 3,SA 1 178 177,FA 179 5 3,NP (.store 1 (.t 179) (.c (.bool false)))] 0 [3,6]) (SR [OP 181 (.bin .eql (.t 19) (.c (.int .u8 83))),MV 180 181] [2,3,6,7,9,19,180] (.cond (.t 180) (.reg [FA 182 2 3,LD 183 182,FA 184 1 3,LD 185 184,FA 186 7 3,LD 187 186,FA 188 8 3,LD 189 188,MV 190 7,OP 191 (.call 119 [.t 183,.t 185,.t 187,.t 189,.t 190]),FA 192 2 3,SA 1 192 191,FA 193 5 3,NP (.store 1 (.t 193) (.c (.bool false)))] 0 [3,6]) (SR [OP 195 (.bin .eql (.t 19) (.c (.int .u8 84))),MV 194 195] [2,3,6,7,9,19,194] (.cond (.t 194) (.reg [FA 196 2 3,LD 197 196,FA 198 1 3,LD 199 198,FA 200 7 3,LD 201 200,FA 202 8 3,LD 203 202,MV 204 7,OP 205 (.call 115 [.t 197,.t 199,.t 201,.t 203,.t 204]),FA 206 2 3,SA 1 206 205,FA 207 5 3,NP (.store 1 (.t 207) (.c (.bool false)))] 0 [3,6]) (SR [OP 209 (.bin .eql (.t 19) (.c (.int .u8 114))),MV 208 209] [2,3,6,7,9,19,208] (.cond (.t 208) (.seq (.cJ (.take (MV 210 7) [] (.take (BI 211 .sub 210 1) [] (.take (MV 212 2) [] (.take (FA 213 0 3) [] (.take (LD 214 213) [] (.take (FA 216 0 3) [] (.take (LD 217 216) [] (.op (OP 215 (.call 116 [.t 212,.c (.int .i64 1),.t 214])) (.take (OP 218 (.mm false (.t 215) (.t 217))) [] (.take (BI 219 .sub 218 1) [] (.take (MV 10 211) [] (.take (MV 11 219) [] .done)))))))))))) 0 [3,6,10,11]) (SR [MV 220 10,MV 221 11,BT 222 .lss 220 221] [3,6,10,11,222] (.cond (.t 222) (SR [LT 223 24 3,OP 224 (.call 117 [.t 223,.c (.int .i64 0),.c (.int .i64 0)]),SA 24 3 224] [3,6,10,11] (.reg [MV 225 10,MV 226 11,FA 227 7 3,SA 1 227 225,FA 228 8 3,SA 1 228 226] 0 [3,6])) .skip))) (SR [OP 230 (.bin .eql (.t 19) (.c (.int .u8 103))),MV 229 230] [2,3,6,9,19,229] (.cond (.t 229) (.seq (SR [MV 231 9,BI 232 .eql 231 0,MV 233 232,MG 234 9 233 false,OG 235 (.bin .eql (.t 234) (.c (.int .i64 3))) 233 false,OP 236 (.pick (.t 233) (.c (.bool true)) (.t 235))] [3,6,9,236] (.cond (.t 236) (SR [FA 237 9 3,LD 238 237,OP 239 (.append 1 1 (.c (.sl 0 [] .nil)) (.t 238)),FA 240 9 3,SA 1 240 239] [3,6,9] (.reg [FA 241 9 3,LD 242 241,FA 243 4 3,LD 244 243,OP 245 (.aT 1 (.t 242) (.t 244)),NP (.store 1 (.t 245) (.c (.bool false)))] 0 [3,6,9])) .skip)) (SR [MV 246 9,BI 247 .eql 246 3] [3,6,247] (.cond (.t 247) (.reg [FA 248 1 3,LD 249 248,OP 250 (.fY 1 1 [.bool false] (.t 249) (.t 249)),FA 251 9 3,SA 1 251 250] 0 [3,6]) .skip))) (SR [OP 253 (.bin .eql (.t 19) (.c (.int .u8 109))),MV 252 253] [2,3,6,252] (.cond (.t 252) (.seq (SR [MV 254 2,OP 255 (.len (.t 254)),BI 256 .eql 255 0] [2,3,6,256] (.cond (.t 256) (.reg [FA 257 6 3,NP (.store 1 (.t 257) (.c (.int .u16 0)))] 0 [2,3,6]) .skip)) (SR [OP 12 (.mov (.c (.int .i64 0)))] [2,3,6,12] (.blk 1 (.loop tH)))) .skip)))))))))))))))))))))))))))))))))))) (SR [LT 272 24 3,SA 24 6 272] [6] .ret)))),[.c 6 true 24]⟩
theorem bw:aK PG.P (aA PG.P 75 aU) 75=some aU:=by kernel_rfl
theorem FQ {i:Nat}{u:Int}(hs:sz=1\/ps=[])(hl:ps.length<=1000000):av PG 116 [.sl sz (af .i64 ps) sk,.int .i64 i,.int .i64 u] fun n r os=>r=.int .i64 (if bF ps i=0 then u else bF ps i)/\os=[]:=
 av.GX (fun n T=>by simp -implicitDefEqProofs -dsimp only[vcS,↓vcQ,simprocAttr]) fun T=>Qd hs hl rfl
def qU:List DV->Option aS
 | [a,.int .i64 i,.int .i64 u]=>some ⟨aD .i64 a/\(aG a).length<=1000000/\(i=0\/i=1),fun n=>(.int .i64 (if bF (aG a) i.toNat=0 then u else bF (aG a) i.toNat),[])⟩
 | _=>none
theorem br (a:DV)(i u:Int):qU [a,.int .i64 i,.int .i64 u]=some ⟨aD .i64 a/\(aG a).length<=1000000/\(i=0\/i=1),fun n=>(.int .i64 (if bF (aG a) i.toNat=0 then u else bF (aG a) i.toNat),[])⟩:=ak _
theorem ML (args:List DV)(s:aS)(hs:qU args=some s)(hp:s.pre):av PG 116 args fun n r os=>r=(s.res n).1/\os=(s.res n).2:=by
 unfold qU at hs
 split at hs
 ·obtain rfl:=sj hs
  obtain ⟨h1,h2,h3⟩:=hp
  obtain ⟨sz,k,e,h4,h5⟩:=aC h1
  rename_i a i u
  rcases h3 with rfl | rfl
  ·have:=FQ (sz:=sz) (i:=0) (sk:=k) (u:=u) h4 h2
   rw[<-e] at this
   exact this
  ·have:=FQ (sz:=sz) (i:=1) (sk:=k) (u:=u) h4 h2
   rw[<-e] at this
   exact this
 ·cases hs
def wA:List DV->Option aS
 | [.int .u16 a,.int .i64 k]=>some ⟨0<=a/\a<=65535,fun n=>(.int .u16 (bR a k),[])⟩
 | _=>none
theorem bC (a k:Int):wA [.int .u16 a,.int .i64 k]=some ⟨0<=a/\a<=65535,fun n=>(.int .u16 (bR a k),[])⟩:=ak _
theorem Qe (args:List DV)(s:aS)(hs:wA args=some s)(hp:s.pre):av PG 123 args fun n r os=>r=(s.res n).1/\os=(s.res n).2:=by
 unfold wA at hs
 split at hs
 ·obtain rfl:=sj hs
  exact av.GX (fun n T=>by simp -implicitDefEqProofs -dsimp only[vcS,↓vcQ,simprocAttr]) fun T=>V9 hp rfl
 ·cases hs
def TSq:FL:=(116,.o qU)::[(123,.o wA)]
theorem dj:FOk PG (tab TSq):=FOk.cons (FOk.cons FOk.nil Qe) ML
theorem eW (args:List DV):tab TSq 116 args=(qU args).map .o:=ak _
theorem eX (args:List DV):tab TSq 123 args=(wA args).map .o:=ak _
theorem cA (args:List DV):tab TSq 117 args=none:=ak _
theorem bp (args:List DV):tab TSq 118 args=none:=ak _
theorem cB (args:List DV):tab TSq 119 args=none:=ak _
theorem bB (args:List DV):tab TSq 115 args=none:=ak _
theorem aV (args:List DV):tab TSq 120 args=none:=ak _
theorem aW (args:List DV):tab TSq 121 args=none:=ak _
theorem bq (args:List DV):tab TSq 122 args=none:=ak _
structure SqF (ps:List Int) (n mm k:Int):Prop where
 en:(if bF ps 0=0 then (1:Int) else bF ps 0)=n
 em:(if bF ps 1=0 then (1:Int) else bF ps 1)=mm
 ek:(if bF ps 0=0 then (0:Int) else bF ps 0)=k
 rn:1<=n/\n<=65535
 rm:1<=mm/\mm<=65535
 rk:0<=k/\k<=65535
theorem sqF (h:∀k∈ps,0<=k/\k<=65535):SqF ps (max (bF ps 0) 1) (max (bF ps 1) 1) (bF ps 0):=by
 have h0:=bJ h 0
 have h1:=bJ h 1
 exact ⟨by split <;> omega,by split <;> omega,by split <;> omega,by omega,by omega,h0⟩
theorem V6 (ok:aR s)(hv:aJ s p v)(hs:sz=1\/ps=[])(i1:aD .i64 (.sl sz (af .i64 ps) sk))(hl:ps.length<=1000000)(F:SqF ps n mm k)(h:∀T' v',ax T T' []->aJ (toF s (s.y-n) (s.x)) p v'->K v' T'):aj PG 75 [v,.int .u8 65,.sl sz (af .i64 ps) sk] T K:=by
 obtain ⟨z1,z2,z3,k1,k2,k3,m,pr,d1,d2,d3,sv,rfl⟩:=hv
 obtain ⟨o1,o2,o3⟩:=sv.pa.one
 have hr:=ok.g.r
 have hc:=ok.g.c
 have hyr:=ok.y
 have hxr:=ok.x
 have hne:T.length+1≠T.length:=by omega
 have fn:=F.en
 have fm:=F.em
 have fk:=F.ek
 have rn:=F.rn
 have rm:=F.rm
 have rk:=F.rk
 have sz0:(0:Int).toNat=0:=rfl
 have sz1:(1:Int).toNat=1:=rfl
 have w1:IntKind.i64.wrap ((s.y:Int)-n)=(s.y:Int)-n:=aO (by omega) (by omega)
 unfold scD
 refine aj.aE dj bw (by simp[aU]) ?_
 unfold aU
 dsimp only
 simp -implicitDefEqProofs -dsimp only[ah,eW,eX,br,bC,cA,bp,cB,bB,aV,aW,bq,sz0,sz1,i1,hl,fn,fm,fk,aL,o1,o2,o3,w1,vcS,↓vcQ,simprocAttr]
 refine sV (s:=s) ok (aJ.of sv) fun T1 v' g1 hv'=>?_
 obtain ⟨y1,y2,y3,j1,j2,j3,m',pr',e1,e2,e3,sv',rfl⟩:=hv'
 obtain ⟨p1,p2,p3⟩:=sv'.pa.one
 unfold scD
 have hb2:=g1.at (bl T [_,some (Ob.box _)] 1) (by simp)
 simp -implicitDefEqProofs -dsimp only[ah,ai hb2,p1,p2,p3,vcS,↓vcQ,simprocAttr]
 have kk:ax T T1 []:=(ax.app T _ []).new g1 (by simp)
 exact gI (kk.put (Dd.ge (by omega)) _) fun k=>h _ _ k (aJ.of (s:=toF s (s.y-n) (s.x)) sv')
theorem V5 (ok:aR s)(hv:aJ s p v)(hs:sz=1\/ps=[])(i1:aD .i64 (.sl sz (af .i64 ps) sk))(hl:ps.length<=1000000)(F:SqF ps n mm k)(h:∀T' v',ax T T' []->aJ (toF s (s.y+n) (s.x)) p v'->K v' T'):aj PG 75 [v,.int .u8 66,.sl sz (af .i64 ps) sk] T K:=by
 obtain ⟨z1,z2,z3,k1,k2,k3,m,pr,d1,d2,d3,sv,rfl⟩:=hv
 obtain ⟨o1,o2,o3⟩:=sv.pa.one
 have hr:=ok.g.r
 have hc:=ok.g.c
 have hyr:=ok.y
 have hxr:=ok.x
 have hne:T.length+1≠T.length:=by omega
 have fn:=F.en
 have fm:=F.em
 have fk:=F.ek
 have rn:=F.rn
 have rm:=F.rm
 have rk:=F.rk
 have sz0:(0:Int).toNat=0:=rfl
 have sz1:(1:Int).toNat=1:=rfl
 have w1:IntKind.i64.wrap ((s.y:Int)+n)=(s.y:Int)+n:=aO (by omega) (by omega)
 unfold scD
 refine aj.aE dj bw (by simp[aU]) ?_
 unfold aU
 dsimp only
 simp -implicitDefEqProofs -dsimp only[ah,eW,eX,br,bC,cA,bp,cB,bB,aV,aW,bq,sz0,sz1,i1,hl,fn,fm,fk,aL,o1,o2,o3,w1,vcS,↓vcQ,simprocAttr]
 refine sV (s:=s) ok (aJ.of sv) fun T1 v' g1 hv'=>?_
 obtain ⟨y1,y2,y3,j1,j2,j3,m',pr',e1,e2,e3,sv',rfl⟩:=hv'
 obtain ⟨p1,p2,p3⟩:=sv'.pa.one
 unfold scD
 have hb2:=g1.at (bl T [_,some (Ob.box _)] 1) (by simp)
 simp -implicitDefEqProofs -dsimp only[ah,ai hb2,p1,p2,p3,vcS,↓vcQ,simprocAttr]
 have kk:ax T T1 []:=(ax.app T _ []).new g1 (by simp)
 exact gI (kk.put (Dd.ge (by omega)) _) fun k=>h _ _ k (aJ.of (s:=toF s (s.y+n) (s.x)) sv')
theorem V4 (ok:aR s)(hv:aJ s p v)(hs:sz=1\/ps=[])(i1:aD .i64 (.sl sz (af .i64 ps) sk))(hl:ps.length<=1000000)(F:SqF ps n mm k)(h:∀T' v',ax T T' []->aJ (toF s (s.y) (s.x+n)) p v'->K v' T'):aj PG 75 [v,.int .u8 67,.sl sz (af .i64 ps) sk] T K:=by
 obtain ⟨z1,z2,z3,k1,k2,k3,m,pr,d1,d2,d3,sv,rfl⟩:=hv
 obtain ⟨o1,o2,o3⟩:=sv.pa.one
 have hr:=ok.g.r
 have hc:=ok.g.c
 have hyr:=ok.y
 have hxr:=ok.x
 have hne:T.length+1≠T.length:=by omega
 have fn:=F.en
 have fm:=F.em
 have fk:=F.ek
 have rn:=F.rn
 have rm:=F.rm
 have rk:=F.rk
 have sz0:(0:Int).toNat=0:=rfl
 have sz1:(1:Int).toNat=1:=rfl
 have w1:IntKind.i64.wrap ((s.x:Int)+n)=(s.x:Int)+n:=aO (by omega) (by omega)
 unfold scD
 refine aj.aE dj bw (by simp[aU]) ?_
 unfold aU
 dsimp only
 simp -implicitDefEqProofs -dsimp only[ah,eW,eX,br,bC,cA,bp,cB,bB,aV,aW,bq,sz0,sz1,i1,hl,fn,fm,fk,aL,o1,o2,o3,w1,vcS,↓vcQ,simprocAttr]
 refine sV (s:=s) ok (aJ.of sv) fun T1 v' g1 hv'=>?_
 obtain ⟨y1,y2,y3,j1,j2,j3,m',pr',e1,e2,e3,sv',rfl⟩:=hv'
 obtain ⟨p1,p2,p3⟩:=sv'.pa.one
 unfold scD
 have hb2:=g1.at (bl T [_,some (Ob.box _)] 1) (by simp)
 simp -implicitDefEqProofs -dsimp only[ah,ai hb2,p1,p2,p3,vcS,↓vcQ,simprocAttr]
 have kk:ax T T1 []:=(ax.app T _ []).new g1 (by simp)
 exact gI (kk.put (Dd.ge (by omega)) _) fun k=>h _ _ k (aJ.of (s:=toF s (s.y) (s.x+n)) sv')
theorem V3 (ok:aR s)(hv:aJ s p v)(hs:sz=1\/ps=[])(i1:aD .i64 (.sl sz (af .i64 ps) sk))(hl:ps.length<=1000000)(F:SqF ps n mm k)(h:∀T' v',ax T T' []->aJ (toF s (s.y) (s.x-n)) p v'->K v' T'):aj PG 75 [v,.int .u8 68,.sl sz (af .i64 ps) sk] T K:=by
 obtain ⟨z1,z2,z3,k1,k2,k3,m,pr,d1,d2,d3,sv,rfl⟩:=hv
 obtain ⟨o1,o2,o3⟩:=sv.pa.one
 have hr:=ok.g.r
 have hc:=ok.g.c
 have hyr:=ok.y
 have hxr:=ok.x
 have hne:T.length+1≠T.length:=by omega
 have fn:=F.en
 have fm:=F.em
 have fk:=F.ek
 have rn:=F.rn
 have rm:=F.rm
 have rk:=F.rk
 have sz0:(0:Int).toNat=0:=rfl
 have sz1:(1:Int).toNat=1:=rfl
 have w1:IntKind.i64.wrap ((s.x:Int)-n)=(s.x:Int)-n:=aO (by omega) (by omega)
 unfold scD
 refine aj.aE dj bw (by simp[aU]) ?_
 unfold aU
 dsimp only
 simp -implicitDefEqProofs -dsimp only[ah,eW,eX,br,bC,cA,bp,cB,bB,aV,aW,bq,sz0,sz1,i1,hl,fn,fm,fk,aL,o1,o2,o3,w1,vcS,↓vcQ,simprocAttr]
 refine sV (s:=s) ok (aJ.of sv) fun T1 v' g1 hv'=>?_
 obtain ⟨y1,y2,y3,j1,j2,j3,m',pr',e1,e2,e3,sv',rfl⟩:=hv'
 obtain ⟨p1,p2,p3⟩:=sv'.pa.one
 unfold scD
 have hb2:=g1.at (bl T [_,some (Ob.box _)] 1) (by simp)
 simp -implicitDefEqProofs -dsimp only[ah,ai hb2,p1,p2,p3,vcS,↓vcQ,simprocAttr]
 have kk:ax T T1 []:=(ax.app T _ []).new g1 (by simp)
 exact gI (kk.put (Dd.ge (by omega)) _) fun k=>h _ _ k (aJ.of (s:=toF s (s.y) (s.x-n)) sv')
theorem V2 (ok:aR s)(hv:aJ s p v)(hs:sz=1\/ps=[])(i1:aD .i64 (.sl sz (af .i64 ps) sk))(hl:ps.length<=1000000)(F:SqF ps n mm k)(h:∀T' v',ax T T' []->aJ (toF s (s.y) (n-1)) p v'->K v' T'):aj PG 75 [v,.int .u8 71,.sl sz (af .i64 ps) sk] T K:=by
 obtain ⟨z1,z2,z3,k1,k2,k3,m,pr,d1,d2,d3,sv,rfl⟩:=hv
 obtain ⟨o1,o2,o3⟩:=sv.pa.one
 have hr:=ok.g.r
 have hc:=ok.g.c
 have hyr:=ok.y
 have hxr:=ok.x
 have hne:T.length+1≠T.length:=by omega
 have fn:=F.en
 have fm:=F.em
 have fk:=F.ek
 have rn:=F.rn
 have rm:=F.rm
 have rk:=F.rk
 have sz0:(0:Int).toNat=0:=rfl
 have sz1:(1:Int).toNat=1:=rfl
 have w1:IntKind.i64.wrap (n-1)=n-1:=aO (by omega) (by omega)
 unfold scD
 refine aj.aE dj bw (by simp[aU]) ?_
 unfold aU
 dsimp only
 simp -implicitDefEqProofs -dsimp only[ah,eW,eX,br,bC,cA,bp,cB,bB,aV,aW,bq,sz0,sz1,i1,hl,fn,fm,fk,aL,o1,o2,o3,w1,vcS,↓vcQ,simprocAttr]
 refine sV (s:=s) ok (aJ.of sv) fun T1 v' g1 hv'=>?_
 obtain ⟨y1,y2,y3,j1,j2,j3,m',pr',e1,e2,e3,sv',rfl⟩:=hv'
 obtain ⟨p1,p2,p3⟩:=sv'.pa.one
 unfold scD
 have hb2:=g1.at (bl T [_,some (Ob.box _)] 1) (by simp)
 simp -implicitDefEqProofs -dsimp only[ah,ai hb2,p1,p2,p3,vcS,↓vcQ,simprocAttr]
 have kk:ax T T1 []:=(ax.app T _ []).new g1 (by simp)
 exact gI (kk.put (Dd.ge (by omega)) _) fun k=>h _ _ k (aJ.of (s:=toF s (s.y) (n-1)) sv')
theorem VS (ok:aR s)(hv:aJ s p v)(hs:sz=1\/ps=[])(i1:aD .i64 (.sl sz (af .i64 ps) sk))(hl:ps.length<=1000000)(F:SqF ps n mm k)(h:∀T' v',ax T T' []->aJ (toF s (s.y) (n-1)) p v'->K v' T'):aj PG 75 [v,.int .u8 96,.sl sz (af .i64 ps) sk] T K:=by
 obtain ⟨z1,z2,z3,k1,k2,k3,m,pr,d1,d2,d3,sv,rfl⟩:=hv
 obtain ⟨o1,o2,o3⟩:=sv.pa.one
 have hr:=ok.g.r
 have hc:=ok.g.c
 have hyr:=ok.y
 have hxr:=ok.x
 have hne:T.length+1≠T.length:=by omega
 have fn:=F.en
 have fm:=F.em
 have fk:=F.ek
 have rn:=F.rn
 have rm:=F.rm
 have rk:=F.rk
 have sz0:(0:Int).toNat=0:=rfl
 have sz1:(1:Int).toNat=1:=rfl
 have w1:IntKind.i64.wrap (n-1)=n-1:=aO (by omega) (by omega)
 unfold scD
 refine aj.aE dj bw (by simp[aU]) ?_
 unfold aU
 dsimp only
 simp -implicitDefEqProofs -dsimp only[ah,eW,eX,br,bC,cA,bp,cB,bB,aV,aW,bq,sz0,sz1,i1,hl,fn,fm,fk,aL,o1,o2,o3,w1,vcS,↓vcQ,simprocAttr]
 refine sV (s:=s) ok (aJ.of sv) fun T1 v' g1 hv'=>?_
 obtain ⟨y1,y2,y3,j1,j2,j3,m',pr',e1,e2,e3,sv',rfl⟩:=hv'
 obtain ⟨p1,p2,p3⟩:=sv'.pa.one
 unfold scD
 have hb2:=g1.at (bl T [_,some (Ob.box _)] 1) (by simp)
 simp -implicitDefEqProofs -dsimp only[ah,ai hb2,p1,p2,p3,vcS,↓vcQ,simprocAttr]
 have kk:ax T T1 []:=(ax.app T _ []).new g1 (by simp)
 exact gI (kk.put (Dd.ge (by omega)) _) fun k=>h _ _ k (aJ.of (s:=toF s (s.y) (n-1)) sv')
theorem Qb (ok:aR s)(hv:aJ s p v)(hs:sz=1\/ps=[])(i1:aD .i64 (.sl sz (af .i64 ps) sk))(hl:ps.length<=1000000)(F:SqF ps n mm k)(h:∀T' v',ax T T' []->aJ (toF s (n-1) (s.x)) p v'->K v' T'):aj PG 75 [v,.int .u8 100,.sl sz (af .i64 ps) sk] T K:=by
 obtain ⟨z1,z2,z3,k1,k2,k3,m,pr,d1,d2,d3,sv,rfl⟩:=hv
 obtain ⟨o1,o2,o3⟩:=sv.pa.one
 have hr:=ok.g.r
 have hc:=ok.g.c
 have hyr:=ok.y
 have hxr:=ok.x
 have hne:T.length+1≠T.length:=by omega
 have fn:=F.en
 have fm:=F.em
 have fk:=F.ek
 have rn:=F.rn
 have rm:=F.rm
 have rk:=F.rk
 have sz0:(0:Int).toNat=0:=rfl
 have sz1:(1:Int).toNat=1:=rfl
 have w1:IntKind.i64.wrap (n-1)=n-1:=aO (by omega) (by omega)
 unfold scD
 refine aj.aE dj bw (by simp[aU]) ?_
 unfold aU
 dsimp only
 simp -implicitDefEqProofs -dsimp only[ah,eW,eX,br,bC,cA,bp,cB,bB,aV,aW,bq,sz0,sz1,i1,hl,fn,fm,fk,aL,o1,o2,o3,w1,vcS,↓vcQ,simprocAttr]
 refine sV (s:=s) ok (aJ.of sv) fun T1 v' g1 hv'=>?_
 obtain ⟨y1,y2,y3,j1,j2,j3,m',pr',e1,e2,e3,sv',rfl⟩:=hv'
 obtain ⟨p1,p2,p3⟩:=sv'.pa.one
 unfold scD
 have hb2:=g1.at (bl T [_,some (Ob.box _)] 1) (by simp)
 simp -implicitDefEqProofs -dsimp only[ah,ai hb2,p1,p2,p3,vcS,↓vcQ,simprocAttr]
 have kk:ax T T1 []:=(ax.app T _ []).new g1 (by simp)
 exact gI (kk.put (Dd.ge (by omega)) _) fun k=>h _ _ k (aJ.of (s:=toF s (n-1) (s.x)) sv')
theorem V1 (ok:aR s)(hv:aJ s p v)(hs:sz=1\/ps=[])(i1:aD .i64 (.sl sz (af .i64 ps) sk))(hl:ps.length<=1000000)(F:SqF ps n mm k)(h:∀T' v',ax T T' []->aJ (toF s (n-1) (mm-1)) p v'->K v' T'):aj PG 75 [v,.int .u8 72,.sl sz (af .i64 ps) sk] T K:=by
 obtain ⟨z1,z2,z3,k1,k2,k3,m,pr,d1,d2,d3,sv,rfl⟩:=hv
 obtain ⟨o1,o2,o3⟩:=sv.pa.one
 have hr:=ok.g.r
 have hc:=ok.g.c
 have hyr:=ok.y
 have hxr:=ok.x
 have hne:T.length+1≠T.length:=by omega
 have fn:=F.en
 have fm:=F.em
 have fk:=F.ek
 have rn:=F.rn
 have rm:=F.rm
 have rk:=F.rk
 have sz0:(0:Int).toNat=0:=rfl
 have sz1:(1:Int).toNat=1:=rfl
 have w1:IntKind.i64.wrap (n-1)=n-1:=aO (by omega) (by omega)
 have w2:IntKind.i64.wrap (mm-1)=mm-1:=aO (by omega) (by omega)
 unfold scD
 refine aj.aE dj bw (by simp[aU]) ?_
 unfold aU
 dsimp only
 simp -implicitDefEqProofs -dsimp only[ah,eW,eX,br,bC,cA,bp,cB,bB,aV,aW,bq,sz0,sz1,i1,hl,fn,fm,fk,aL,o1,o2,o3,w1,w2,vcS,↓vcQ,simprocAttr]
 refine sV (s:=s) ok (aJ.of sv) fun T1 v' g1 hv'=>?_
 obtain ⟨y1,y2,y3,j1,j2,j3,m',pr',e1,e2,e3,sv',rfl⟩:=hv'
 obtain ⟨p1,p2,p3⟩:=sv'.pa.one
 unfold scD
 have hb2:=g1.at (bl T [_,some (Ob.box _)] 1) (by simp)
 simp -implicitDefEqProofs -dsimp only[ah,ai hb2,p1,p2,p3,vcS,↓vcQ,simprocAttr]
 have kk:ax T T1 []:=(ax.app T _ []).new g1 (by simp)
 exact gI (kk.put (Dd.ge (by omega)) _) fun k=>h _ _ k (aJ.of (s:=toF s (n-1) (mm-1)) sv')
theorem Qa (ok:aR s)(hv:aJ s p v)(hs:sz=1\/ps=[])(i1:aD .i64 (.sl sz (af .i64 ps) sk))(hl:ps.length<=1000000)(F:SqF ps n mm k)(h:∀T' v',ax T T' []->aJ (toF s (n-1) (mm-1)) p v'->K v' T'):aj PG 75 [v,.int .u8 102,.sl sz (af .i64 ps) sk] T K:=by
 obtain ⟨z1,z2,z3,k1,k2,k3,m,pr,d1,d2,d3,sv,rfl⟩:=hv
 obtain ⟨o1,o2,o3⟩:=sv.pa.one
 have hr:=ok.g.r
 have hc:=ok.g.c
 have hyr:=ok.y
 have hxr:=ok.x
 have hne:T.length+1≠T.length:=by omega
 have fn:=F.en
 have fm:=F.em
 have fk:=F.ek
 have rn:=F.rn
 have rm:=F.rm
 have rk:=F.rk
 have sz0:(0:Int).toNat=0:=rfl
 have sz1:(1:Int).toNat=1:=rfl
 have w1:IntKind.i64.wrap (n-1)=n-1:=aO (by omega) (by omega)
 have w2:IntKind.i64.wrap (mm-1)=mm-1:=aO (by omega) (by omega)
 unfold scD
 refine aj.aE dj bw (by simp[aU]) ?_
 unfold aU
 dsimp only
 simp -implicitDefEqProofs -dsimp only[ah,eW,eX,br,bC,cA,bp,cB,bB,aV,aW,bq,sz0,sz1,i1,hl,fn,fm,fk,aL,o1,o2,o3,w1,w2,vcS,↓vcQ,simprocAttr]
 refine sV (s:=s) ok (aJ.of sv) fun T1 v' g1 hv'=>?_
 obtain ⟨y1,y2,y3,j1,j2,j3,m',pr',e1,e2,e3,sv',rfl⟩:=hv'
 obtain ⟨p1,p2,p3⟩:=sv'.pa.one
 unfold scD
 have hb2:=g1.at (bl T [_,some (Ob.box _)] 1) (by simp)
 simp -implicitDefEqProofs -dsimp only[ah,ai hb2,p1,p2,p3,vcS,↓vcQ,simprocAttr]
 have kk:ax T T1 []:=(ax.app T _ []).new g1 (by simp)
 exact gI (kk.put (Dd.ge (by omega)) _) fun k=>h _ _ k (aJ.of (s:=toF s (n-1) (mm-1)) sv')
theorem V0 (ok:aR s)(hv:aJ s p v)(hs:sz=1\/ps=[])(i1:aD .i64 (.sl sz (af .i64 ps) sk))(hl:ps.length<=1000000)(F:SqF ps n mm k)(h:∀T' v',ax T T' []->aJ (fW s false k) p v'->K v' T'):aj PG 75 [v,.int .u8 74,.sl sz (af .i64 ps) sk] T K:=by
 obtain ⟨z1,z2,z3,k1,k2,k3,m,pr,d1,d2,d3,sv,rfl⟩:=hv
 obtain ⟨o1,o2,o3⟩:=sv.pa.one
 have hr:=ok.g.r
 have hc:=ok.g.c
 have hyr:=ok.y
 have hxr:=ok.x
 have hne:T.length+1≠T.length:=by omega
 have fn:=F.en
 have fm:=F.em
 have fk:=F.ek
 have rn:=F.rn
 have rm:=F.rm
 have rk:=F.rk
 have sz0:(0:Int).toNat=0:=rfl
 have sz1:(1:Int).toNat=1:=rfl
 unfold scD
 refine aj.aE dj bw (by simp[aU]) ?_
 unfold aU
 dsimp only
 simp -implicitDefEqProofs -dsimp only[ah,eW,eX,br,bC,cA,bp,cB,bB,aV,aW,bq,sz0,sz1,i1,hl,fn,fm,fk,aL,o1,o2,o3,vcS,↓vcQ,simprocAttr]
 refine FR (s:=s) ok rk.1 (aJ.of sv) fun T1 v' g1 hv'=>?_
 obtain ⟨y1,y2,y3,j1,j2,j3,m',pr',e1,e2,e3,sv',rfl⟩:=hv'
 obtain ⟨p1,p2,p3⟩:=sv'.pa.one
 unfold scD
 have hb2:=g1.at (bl T [_,some (Ob.box _)] 1) (by simp)
 simp -implicitDefEqProofs -dsimp only[ah,ai hb2,p1,p2,p3,vcS,↓vcQ,simprocAttr]
 have kk:ax T T1 []:=(ax.app T _ []).new g1 (by simp)
 exact gI (kk.put (Dd.ge (by omega)) _) fun q=>h _ _ q (aJ.of (s:=fW s false k) sv')
theorem VZ (ok:aR s)(hv:aJ s p v)(hs:sz=1\/ps=[])(i1:aD .i64 (.sl sz (af .i64 ps) sk))(hl:ps.length<=1000000)(F:SqF ps n mm k)(h:∀T' v',ax T T' []->aJ (fW s true k) p v'->K v' T'):aj PG 75 [v,.int .u8 75,.sl sz (af .i64 ps) sk] T K:=by
 obtain ⟨z1,z2,z3,k1,k2,k3,m,pr,d1,d2,d3,sv,rfl⟩:=hv
 obtain ⟨o1,o2,o3⟩:=sv.pa.one
 have hr:=ok.g.r
 have hc:=ok.g.c
 have hyr:=ok.y
 have hxr:=ok.x
 have hne:T.length+1≠T.length:=by omega
 have fn:=F.en
 have fm:=F.em
 have fk:=F.ek
 have rn:=F.rn
 have rm:=F.rm
 have rk:=F.rk
 have sz0:(0:Int).toNat=0:=rfl
 have sz1:(1:Int).toNat=1:=rfl
 unfold scD
 refine aj.aE dj bw (by simp[aU]) ?_
 unfold aU
 dsimp only
 simp -implicitDefEqProofs -dsimp only[ah,eW,eX,br,bC,cA,bp,cB,bB,aV,aW,bq,sz0,sz1,i1,hl,fn,fm,fk,aL,o1,o2,o3,vcS,↓vcQ,simprocAttr]
 refine FR (s:=s) ok rk.1 (aJ.of sv) fun T1 v' g1 hv'=>?_
 obtain ⟨y1,y2,y3,j1,j2,j3,m',pr',e1,e2,e3,sv',rfl⟩:=hv'
 obtain ⟨p1,p2,p3⟩:=sv'.pa.one
 unfold scD
 have hb2:=g1.at (bl T [_,some (Ob.box _)] 1) (by simp)
 simp -implicitDefEqProofs -dsimp only[ah,ai hb2,p1,p2,p3,vcS,↓vcQ,simprocAttr]
 have kk:ax T T1 []:=(ax.app T _ []).new g1 (by simp)
 exact gI (kk.put (Dd.ge (by omega)) _) fun q=>h _ _ q (aJ.of (s:=fW s true k) sv')
theorem VY (ok:aR s)(hv:aJ s p v)(hs:sz=1\/ps=[])(i1:aD .i64 (.sl sz (af .i64 ps) sk))(hl:ps.length<=1000000)(F:SqF ps n mm k)(h:∀T' v',ax T T' []->aJ (if s.top<=s.y/\s.y<=s.bot then { s with wrap:=false,x:=0,cells:=dnF s.cells s.aa s.y s.bot n} else { s with wrap:=false}) p v'->K v' T'):aj PG 75 [v,.int .u8 76,.sl sz (af .i64 ps) sk] T K:=by
 obtain ⟨z1,z2,z3,k1,k2,k3,m,pr,d1,d2,d3,sv,rfl⟩:=hv
 obtain ⟨o1,o2,o3⟩:=sv.pa.one
 have hr:=ok.g.r
 have hc:=ok.g.c
 have hyr:=ok.y
 have hxr:=ok.x
 have hne:T.length+1≠T.length:=by omega
 have fn:=F.en
 have fm:=F.em
 have fk:=F.ek
 have rn:=F.rn
 have rm:=F.rm
 have rk:=F.rk
 have sz0:(0:Int).toNat=0:=rfl
 have sz1:(1:Int).toNat=1:=rfl
 rcases Decidable.em (s.top<=s.y/\s.y<=s.bot) with c | c
 ·rw[if_pos c] at h
  have c1:(s.top:Int)<=s.y:=by omega
  have c2:(s.y:Int)<=s.bot:=by omega
  unfold scD
  refine aj.aE dj bw (by simp[aU]) ?_
  unfold aU
  dsimp only
  simp -implicitDefEqProofs -dsimp only[ah,eW,eX,br,bC,cA,bp,cB,bB,aV,aW,bq,sz0,sz1,i1,hl,fn,fm,fk,aL,o1,o2,o3,c1,c2,vcS,↓vcQ,simprocAttr]
  refine DZ (n:=n) sv.z1 ok.g c.2 ok.b fun T1 g1=>?_
  have hb1:=g1.at (aZ T [_] (some (Ob.box _))) (by simp)
  have hb2:=g1.at (bl T [_,some (Ob.box _)] 1) (by simp)
  simp -implicitDefEqProofs -dsimp only[ah,ai hb1,ai hb2,fun y=>ai (bn hb2 y hne),o1,o2,o3,List.set_set,vcS,↓vcQ,simprocAttr]
  have kk:ax T T1 []:=(ax.app T _ []).new g1 (by simp)
  have kf:=fun x y=>(kk.put (o:=T.length) (Dd.ge (Nat.le_refl _)) x).put (o:=T.length+1) (Dd.ge (by omega)) y
  exact gI (kf _ _) fun q=>h _ _ q (aJ.of (s:={ s with wrap:=false,x:=0,cells:=dnF s.cells s.aa s.y s.bot n}) ⟨rfl,sv.z2,sv.z3,sv.pa⟩)
 ·rw[if_neg c] at h
  rcases Decidable.em (s.top<=s.y) with c1 | c1
  ·have c1':(s.top:Int)<=s.y:=by omega
   have c2:¬(s.y:Int)<=s.bot:=by omega
   unfold scD
   refine aj.aE dj bw (by simp[aU]) ?_
   unfold aU
   dsimp only
   simp -implicitDefEqProofs -dsimp only[ah,eW,eX,br,bC,cA,bp,cB,bB,aV,aW,bq,sz0,sz1,i1,hl,fn,fm,fk,aL,o1,o2,o3,c1',eq_false c2,vcS,↓vcQ,simprocAttr]
   exact h _ _ (ax.app _ _ _) (aJ.of (s:={ s with wrap:=false}) ⟨sv.z1,sv.z2,sv.z3,sv.pa⟩)
  ·have c1':¬(s.top:Int)<=s.y:=by omega
   unfold scD
   refine aj.aE dj bw (by simp[aU]) ?_
   unfold aU
   dsimp only
   simp -implicitDefEqProofs -dsimp only[ah,eW,eX,br,bC,cA,bp,cB,bB,aV,aW,bq,sz0,sz1,i1,hl,fn,fm,fk,aL,o1,o2,o3,eq_false c1',vcS,↓vcQ,simprocAttr]
   exact h _ _ (ax.app _ _ _) (aJ.of (s:={ s with wrap:=false}) ⟨sv.z1,sv.z2,sv.z3,sv.pa⟩)
theorem VX (ok:aR s)(hv:aJ s p v)(hs:sz=1\/ps=[])(i1:aD .i64 (.sl sz (af .i64 ps) sk))(hl:ps.length<=1000000)(F:SqF ps n mm k)(h:∀T' v',ax T T' []->aJ (if s.top<=s.y/\s.y<=s.bot then { s with wrap:=false,x:=0,cells:=upF s.cells s.aa s.y s.bot n} else { s with wrap:=false}) p v'->K v' T'):aj PG 75 [v,.int .u8 77,.sl sz (af .i64 ps) sk] T K:=by
 obtain ⟨z1,z2,z3,k1,k2,k3,m,pr,d1,d2,d3,sv,rfl⟩:=hv
 obtain ⟨o1,o2,o3⟩:=sv.pa.one
 have hr:=ok.g.r
 have hc:=ok.g.c
 have hyr:=ok.y
 have hxr:=ok.x
 have hne:T.length+1≠T.length:=by omega
 have fn:=F.en
 have fm:=F.em
 have fk:=F.ek
 have rn:=F.rn
 have rm:=F.rm
 have rk:=F.rk
 have sz0:(0:Int).toNat=0:=rfl
 have sz1:(1:Int).toNat=1:=rfl
 rcases Decidable.em (s.top<=s.y/\s.y<=s.bot) with c | c
 ·rw[if_pos c] at h
  have c1:(s.top:Int)<=s.y:=by omega
  have c2:(s.y:Int)<=s.bot:=by omega
  unfold scD
  refine aj.aE dj bw (by simp[aU]) ?_
  unfold aU
  dsimp only
  simp -implicitDefEqProofs -dsimp only[ah,eW,eX,br,bC,cA,bp,cB,bB,aV,aW,bq,sz0,sz1,i1,hl,fn,fm,fk,aL,o1,o2,o3,c1,c2,vcS,↓vcQ,simprocAttr]
  refine Qi (n:=n) sv.z1 ok.g c.2 ok.b fun T1 g1=>?_
  have hb1:=g1.at (aZ T [_] (some (Ob.box _))) (by simp)
  have hb2:=g1.at (bl T [_,some (Ob.box _)] 1) (by simp)
  simp -implicitDefEqProofs -dsimp only[ah,ai hb1,ai hb2,fun y=>ai (bn hb2 y hne),o1,o2,o3,List.set_set,vcS,↓vcQ,simprocAttr]
  have kk:ax T T1 []:=(ax.app T _ []).new g1 (by simp)
  have kf:=fun x y=>(kk.put (o:=T.length) (Dd.ge (Nat.le_refl _)) x).put (o:=T.length+1) (Dd.ge (by omega)) y
  exact gI (kf _ _) fun q=>h _ _ q (aJ.of (s:={ s with wrap:=false,x:=0,cells:=upF s.cells s.aa s.y s.bot n}) ⟨rfl,sv.z2,sv.z3,sv.pa⟩)
 ·rw[if_neg c] at h
  rcases Decidable.em (s.top<=s.y) with c1 | c1
  ·have c1':(s.top:Int)<=s.y:=by omega
   have c2:¬(s.y:Int)<=s.bot:=by omega
   unfold scD
   refine aj.aE dj bw (by simp[aU]) ?_
   unfold aU
   dsimp only
   simp -implicitDefEqProofs -dsimp only[ah,eW,eX,br,bC,cA,bp,cB,bB,aV,aW,bq,sz0,sz1,i1,hl,fn,fm,fk,aL,o1,o2,o3,c1',eq_false c2,vcS,↓vcQ,simprocAttr]
   exact h _ _ (ax.app _ _ _) (aJ.of (s:={ s with wrap:=false}) ⟨sv.z1,sv.z2,sv.z3,sv.pa⟩)
  ·have c1':¬(s.top:Int)<=s.y:=by omega
   unfold scD
   refine aj.aE dj bw (by simp[aU]) ?_
   unfold aU
   dsimp only
   simp -implicitDefEqProofs -dsimp only[ah,eW,eX,br,bC,cA,bp,cB,bB,aV,aW,bq,sz0,sz1,i1,hl,fn,fm,fk,aL,o1,o2,o3,eq_false c1',vcS,↓vcQ,simprocAttr]
   exact h _ _ (ax.app _ _ _) (aJ.of (s:={ s with wrap:=false}) ⟨sv.z1,sv.z2,sv.z3,sv.pa⟩)
theorem V7 (ok:aR s)(hv:aJ s p v)(hs:sz=1\/ps=[])(i1:aD .i64 (.sl sz (af .i64 ps) sk))(hl:ps.length<=1000000)(F:SqF ps n mm k)(h:∀T' v',ax T T' []->aJ ({ s with wrap:=false,cells:=BZ s.cells s.aa s.y s.x n}) p v'->K v' T'):aj PG 75 [v,.int .u8 64,.sl sz (af .i64 ps) sk] T K:=by
 obtain ⟨z1,z2,z3,k1,k2,k3,m,pr,d1,d2,d3,sv,rfl⟩:=hv
 obtain ⟨o1,o2,o3⟩:=sv.pa.one
 have hr:=ok.g.r
 have hc:=ok.g.c
 have hyr:=ok.y
 have hxr:=ok.x
 have hne:T.length+1≠T.length:=by omega
 have fn:=F.en
 have fm:=F.em
 have fk:=F.ek
 have rn:=F.rn
 have rm:=F.rm
 have rk:=F.rk
 have sz0:(0:Int).toNat=0:=rfl
 have sz1:(1:Int).toNat=1:=rfl
 unfold scD
 refine aj.aE dj bw (by simp[aU]) ?_
 unfold aU
 dsimp only
 simp -implicitDefEqProofs -dsimp only[ah,eW,eX,br,bC,cA,bp,cB,bB,aV,aW,bq,sz0,sz1,i1,hl,fn,fm,fk,aL,o1,o2,o3,vcS,↓vcQ,simprocAttr]
 refine MP (n:=n) sv.z1 ok.g ok.y (Nat.le_of_lt ok.x) fun T1 g1=>?_
 have hb1:=g1.at (aZ T [_] (some (Ob.box _))) (by simp)
 have hb2:=g1.at (bl T [_,some (Ob.box _)] 1) (by simp)
 simp -implicitDefEqProofs -dsimp only[ah,ai hb1,ai hb2,fun y=>ai (bn hb2 y hne),o1,o2,o3,List.set_set,vcS,↓vcQ,simprocAttr]
 have kk:ax T T1 []:=(ax.app T _ []).new g1 (by simp)
 have kf:=fun x y=>(kk.put (o:=T.length) (Dd.ge (Nat.le_refl _)) x).put (o:=T.length+1) (Dd.ge (by omega)) y
 exact gI (kf _ _) fun q=>h _ _ q (aJ.of (s:={ s with wrap:=false,cells:=BZ s.cells s.aa s.y s.x n}) ⟨rfl,sv.z2,sv.z3,sv.pa⟩)
theorem VW (ok:aR s)(hv:aJ s p v)(hs:sz=1\/ps=[])(i1:aD .i64 (.sl sz (af .i64 ps) sk))(hl:ps.length<=1000000)(F:SqF ps n mm k)(h:∀T' v',ax T T' []->aJ ({ s with wrap:=false,cells:=B5 s.cells s.aa s.y s.x n}) p v'->K v' T'):aj PG 75 [v,.int .u8 80,.sl sz (af .i64 ps) sk] T K:=by
 obtain ⟨z1,z2,z3,k1,k2,k3,m,pr,d1,d2,d3,sv,rfl⟩:=hv
 obtain ⟨o1,o2,o3⟩:=sv.pa.one
 have hr:=ok.g.r
 have hc:=ok.g.c
 have hyr:=ok.y
 have hxr:=ok.x
 have hne:T.length+1≠T.length:=by omega
 have fn:=F.en
 have fm:=F.em
 have fk:=F.ek
 have rn:=F.rn
 have rm:=F.rm
 have rk:=F.rk
 have sz0:(0:Int).toNat=0:=rfl
 have sz1:(1:Int).toNat=1:=rfl
 unfold scD
 refine aj.aE dj bw (by simp[aU]) ?_
 unfold aU
 dsimp only
 simp -implicitDefEqProofs -dsimp only[ah,eW,eX,br,bC,cA,bp,cB,bB,aV,aW,bq,sz0,sz1,i1,hl,fn,fm,fk,aL,o1,o2,o3,vcS,↓vcQ,simprocAttr]
 refine MQ (n:=n) sv.z1 ok.g ok.y (Nat.le_of_lt ok.x) fun T1 g1=>?_
 have hb1:=g1.at (aZ T [_] (some (Ob.box _))) (by simp)
 have hb2:=g1.at (bl T [_,some (Ob.box _)] 1) (by simp)
 simp -implicitDefEqProofs -dsimp only[ah,ai hb1,ai hb2,fun y=>ai (bn hb2 y hne),o1,o2,o3,List.set_set,vcS,↓vcQ,simprocAttr]
 have kk:ax T T1 []:=(ax.app T _ []).new g1 (by simp)
 have kf:=fun x y=>(kk.put (o:=T.length) (Dd.ge (Nat.le_refl _)) x).put (o:=T.length+1) (Dd.ge (by omega)) y
 exact gI (kf _ _) fun q=>h _ _ q (aJ.of (s:={ s with wrap:=false,cells:=B5 s.cells s.aa s.y s.x n}) ⟨rfl,sv.z2,sv.z3,sv.pa⟩)
theorem VT {K:DV->ay->Prop}(ok:aR s)(hv:aJ s p v)(hs:sz=1\/ps=[])(i1:aD .i64 (.sl sz (af .i64 ps) sk))(hl:ps.length<=1000000)(F:SqF ps n mm k)(h:∀T' v',ax T T' []->aJ ({ s with wrap:=false,cells:=kY s.cells s.aa s.y s.x (s.x+n)}) p v'->K v' T'):aj PG 75 [v,.int .u8 88,.sl sz (af .i64 ps) sk] T K:=by
 obtain ⟨z1,z2,z3,k1,k2,k3,m,pr,d1,d2,d3,sv,rfl⟩:=hv
 obtain ⟨o1,o2,o3⟩:=sv.pa.one
 have hr:=ok.g.r
 have hc:=ok.g.c
 have hyr:=ok.y
 have hxr:=ok.x
 have hne:T.length+1≠T.length:=by omega
 have fn:=F.en
 have fm:=F.em
 have fk:=F.ek
 have rn:=F.rn
 have rm:=F.rm
 have rk:=F.rk
 have sz0:(0:Int).toNat=0:=rfl
 have sz1:(1:Int).toNat=1:=rfl
 have w1:IntKind.i64.wrap ((s.x:Int)+n)=(s.x:Int)+n:=aO (by omega) (by omega)
 unfold scD
 refine aj.aE dj bw (by simp[aU]) ?_
 unfold aU
 dsimp only
 simp -implicitDefEqProofs -dsimp only[ah,eW,eX,br,bC,cA,bp,cB,bB,aV,aW,bq,sz0,sz1,i1,hl,fn,fm,fk,aL,o1,o2,o3,w1,vcS,↓vcQ,simprocAttr]
 refine Qk (f:=(s.x:Int)) (t:=(s.x:Int)+n) sv.z1 ok.g ok.y fun T1 g1=>?_
 have hb1:=g1.at (aZ T [_] (some (Ob.box _))) (by simp)
 have hb2:=g1.at (bl T [_,some (Ob.box _)] 1) (by simp)
 simp -implicitDefEqProofs -dsimp only[ah,ai hb1,ai hb2,fun y=>ai (bn hb2 y hne),o1,o2,o3,List.set_set,vcS,↓vcQ,simprocAttr]
 have kk:ax T T1 []:=(ax.app T _ []).new g1 (by simp)
 have kf:=fun x y=>(kk.put (o:=T.length) (Dd.ge (Nat.le_refl _)) x).put (o:=T.length+1) (Dd.ge (by omega)) y
 exact gI (kf _ _) fun q=>h _ _ q (aJ.of (s:={ s with wrap:=false,cells:=kY s.cells s.aa s.y s.x (s.x+n)}) ⟨rfl,sv.z2,sv.z3,sv.pa⟩)
theorem VV (ok:aR s)(hv:aJ s p v)(hs:sz=1\/ps=[])(i1:aD .i64 (.sl sz (af .i64 ps) sk))(hl:ps.length<=1000000)(F:SqF ps n mm k)(h:∀T' v',ax T T' []->aJ ({ s with wrap:=false,cells:=upF s.cells s.aa s.top s.bot n}) p v'->K v' T'):aj PG 75 [v,.int .u8 83,.sl sz (af .i64 ps) sk] T K:=by
 obtain ⟨z1,z2,z3,k1,k2,k3,m,pr,d1,d2,d3,sv,rfl⟩:=hv
 obtain ⟨o1,o2,o3⟩:=sv.pa.one
 have hr:=ok.g.r
 have hc:=ok.g.c
 have hyr:=ok.y
 have hxr:=ok.x
 have hne:T.length+1≠T.length:=by omega
 have fn:=F.en
 have fm:=F.em
 have fk:=F.ek
 have rn:=F.rn
 have rm:=F.rm
 have rk:=F.rk
 have sz0:(0:Int).toNat=0:=rfl
 have sz1:(1:Int).toNat=1:=rfl
 unfold scD
 refine aj.aE dj bw (by simp[aU]) ?_
 unfold aU
 dsimp only
 simp -implicitDefEqProofs -dsimp only[ah,eW,eX,br,bC,cA,bp,cB,bB,aV,aW,bq,sz0,sz1,i1,hl,fn,fm,fk,aL,o1,o2,o3,vcS,↓vcQ,simprocAttr]
 refine Qi (n:=n) sv.z1 ok.g ok.tb ok.b fun T1 g1=>?_
 have hb1:=g1.at (aZ T [_] (some (Ob.box _))) (by simp)
 have hb2:=g1.at (bl T [_,some (Ob.box _)] 1) (by simp)
 simp -implicitDefEqProofs -dsimp only[ah,ai hb1,ai hb2,fun y=>ai (bn hb2 y hne),o1,o2,o3,List.set_set,vcS,↓vcQ,simprocAttr]
 have kk:ax T T1 []:=(ax.app T _ []).new g1 (by simp)
 have kf:=fun x y=>(kk.put (o:=T.length) (Dd.ge (Nat.le_refl _)) x).put (o:=T.length+1) (Dd.ge (by omega)) y
 exact gI (kf _ _) fun q=>h _ _ q (aJ.of (s:={ s with wrap:=false,cells:=upF s.cells s.aa s.top s.bot n}) ⟨rfl,sv.z2,sv.z3,sv.pa⟩)
theorem VU (ok:aR s)(hv:aJ s p v)(hs:sz=1\/ps=[])(i1:aD .i64 (.sl sz (af .i64 ps) sk))(hl:ps.length<=1000000)(F:SqF ps n mm k)(h:∀T' v',ax T T' []->aJ ({ s with wrap:=false,cells:=dnF s.cells s.aa s.top s.bot n}) p v'->K v' T'):aj PG 75 [v,.int .u8 84,.sl sz (af .i64 ps) sk] T K:=by
 obtain ⟨z1,z2,z3,k1,k2,k3,m,pr,d1,d2,d3,sv,rfl⟩:=hv
 obtain ⟨o1,o2,o3⟩:=sv.pa.one
 have hr:=ok.g.r
 have hc:=ok.g.c
 have hyr:=ok.y
 have hxr:=ok.x
 have hne:T.length+1≠T.length:=by omega
 have fn:=F.en
 have fm:=F.em
 have fk:=F.ek
 have rn:=F.rn
 have rm:=F.rm
 have rk:=F.rk
 have sz0:(0:Int).toNat=0:=rfl
 have sz1:(1:Int).toNat=1:=rfl
 unfold scD
 refine aj.aE dj bw (by simp[aU]) ?_
 unfold aU
 dsimp only
 simp -implicitDefEqProofs -dsimp only[ah,eW,eX,br,bC,cA,bp,cB,bB,aV,aW,bq,sz0,sz1,i1,hl,fn,fm,fk,aL,o1,o2,o3,vcS,↓vcQ,simprocAttr]
 refine DZ (n:=n) sv.z1 ok.g ok.tb ok.b fun T1 g1=>?_
 have hb1:=g1.at (aZ T [_] (some (Ob.box _))) (by simp)
 have hb2:=g1.at (bl T [_,some (Ob.box _)] 1) (by simp)
 simp -implicitDefEqProofs -dsimp only[ah,ai hb1,ai hb2,fun y=>ai (bn hb2 y hne),o1,o2,o3,List.set_set,vcS,↓vcQ,simprocAttr]
 have kk:ax T T1 []:=(ax.app T _ []).new g1 (by simp)
 have kf:=fun x y=>(kk.put (o:=T.length) (Dd.ge (Nat.le_refl _)) x).put (o:=T.length+1) (Dd.ge (by omega)) y
 exact gI (kf _ _) fun q=>h _ _ q (aJ.of (s:={ s with wrap:=false,cells:=dnF s.cells s.aa s.top s.bot n}) ⟨rfl,sv.z2,sv.z3,sv.pa⟩)
end Go.Proofs.YtjmnbpilnneonaaGreatDoor
