/- Texts H12 in one. -/
import Derived.Test.YtjmnbpilnneonaaGreatDoorN7
set_option linter.unusedVariables false
set_option linter.unusedSimpArgs false
set_option maxRecDepth 10000
namespace Go.Proofs.YtjmnbpilnneonaaGreatDoor
open Go.RowKit
variable {ps:List Int}{T0 T:ay}{o sz:Nat}{s:Sc}{p:Pa}{sk:SK}{ka r pv:Int}{d2:DV}{K:DV->ay->Prop}
noncomputable def bE:RFn:=⟨2,244,(SR [OP 3 (.box 6 (.t 1))] [0,3] (.seq (.cJ (.take (LT 7 6 3) [] (.take (LT 10 6 3) [] (.take (LT 13 6 3) [] (.op (OP 8 (.call 99 [.t 7,.c (.int .i64 0)])) (.take (OP 9 (.mm true (.t 8) (.c (.int .i64 1)))) [] (.op (OP 11 (.call 99 [.t 10,.c (.int .i64 1)])) (.take (OP 12 (.mm true (.t 11) (.c (.int .i64 1)))) [] (.mid (OP 14 (.call 99 [.t 13,.c (.int .i64 0)])) (.take (MV 4 9) [] (.take (MV 5 12) [] (.take (MV 6 14) [] .done))))))))))) 0 [0,3,4,5,6]) (.seq (SR [FA 15 2 3,LD 16 15] [0,3,4,5,6,16] (.blk 0 (SR [OP 18 (.bin .eql (.t 16) (.c (.int .u8 65))),MV 17 18] [0,3,4,5,6,16,17] (.cond (.t 17) (.cJ (.take (MV 19 0) [] (.take (MV 20 0) [] (.take (OP 21 (.aF (.t 20))) [] (.take (FA 22 0 21) [] (.take (FA 23 3 22) [] (.take (LD 24 23) [] (.take (MV 25 4) [] (.take (BT 26 .sub 24 25) [] (.take (MV 27 0) [] (.take (OP 28 (.aF (.t 27))) [] (.take (FA 29 0 28) [] (.take (FA 30 4 29) [] (.take (LD 31 30) [] (.mid (OP 32 (.call 100 [.t 19,.t 26,.t 31])) .done)))))))))))))) 0 [0]) (SR [OP 34 (.bin .eql (.t 16) (.c (.int .u8 66))),MV 33 34] [0,3,4,5,6,16,33] (.cond (.t 33) (.cJ (.take (MV 35 0) [] (.take (MV 36 0) [] (.take (OP 37 (.aF (.t 36))) [] (.take (FA 38 0 37) [] (.take (FA 39 3 38) [] (.take (LD 40 39) [] (.take (MV 41 4) [] (.take (BT 42 .add 40 41) [] (.take (MV 43 0) [] (.take (OP 44 (.aF (.t 43))) [] (.take (FA 45 0 44) [] (.take (FA 46 4 45) [] (.take (LD 47 46) [] (.mid (OP 48 (.call 100 [.t 35,.t 42,.t 47])) .done)))))))))))))) 0 [0]) (SR [OP 50 (.bin .eql (.t 16) (.c (.int .u8 67))),MV 49 50] [0,3,4,5,6,16,49] (.cond (.t 49) (.cJ (.take (MV 51 0) [] (.take (MV 52 0) [] (.take (OP 53 (.aF (.t 52))) [] (.take (FA 54 0 53) [] (.take (FA 55 3 54) [] (.take (LD 56 55) [] (.take (MV 57 0) [] (.take (OP 58 (.aF (.t 57))) [] (.take (FA 59 0 58) [] (.take (FA 60 4 59) [] (.take (LD 61 60) [] (.take (MV 62 4) [] (.take (BT 63 .add 61 62) [] (.mid (OP 64 (.call 100 [.t 51,.t 56,.t 63])) .done)))))))))))))) 0 [0]) (SR [OP 66 (.bin .eql (.t 16) (.c (.int .u8 68))),MV 65 66] [0,3,4,5,6,16,65] (.cond (.t 65) (.cJ (.take (MV 67 0) [] (.take (MV 68 0) [] (.take (OP 69 (.aF (.t 68))) [] (.take (FA 70 0 69) [] (.take (FA 71 3 70) [] (.take (LD 72 71) [] (.take (MV 73 0) [] (.take (OP 74 (.aF (.t 73))) [] (.take (FA 75 0 74) [] (.take (FA 76 4 75) [] (.take (LD 77 76) [] (.take (MV 78 4) [] (.take (BT 79 .sub 77 78) [] (.mid (OP 80 (.call 100 [.t 67,.t 72,.t 79])) .done)))))))))))))) 0 [0]) (.seq (SR [OP 82 (.bin .eql (.t 16) (.c (.int .u8 71))),MV 81 82] [0,3,4,5,6,16,81] (.cond (.t 81) .skip (.reg [OP 83 (.bin .eql (.t 16) (.c (.int .u8 96))),MV 81 83] 0 [0,3,4,5,6,16,81]))) (.cond (.t 81) (.reg [MV 84 0,MV 85 0,OP 86 (.aF (.t 85)),FA 87 0 86,FA 88 3 87,LD 89 88,MV 90 4,BI 91 .sub 90 1,OP 92 (.call 100 [.t 84,.t 89,.t 91])] 0 [0]) (SR [OP 94 (.bin .eql (.t 16) (.c (.int .u8 100))),MV 93 94] [0,3,4,5,6,16,93] (.cond (.t 93) (.reg [MV 95 0,MV 96 4,BI 97 .sub 96 1,MV 98 0,OP 99 (.aF (.t 98)),FA 100 0 99,FA 101 4 100,LD 102 101,OP 103 (.call 100 [.t 95,.t 97,.t 102])] 0 [0]) (.seq (SR [OP 105 (.bin .eql (.t 16) (.c (.int .u8 72))),MV 104 105] [0,3,4,5,6,16,104] (.cond (.t 104) .skip (.reg [OP 106 (.bin .eql (.t 16) (.c (.int .u8 102))),MV 104 106] 0 [0,3,4,5,6,16,104]))) (.cond (.t 104) (.reg [MV 107 0,MV 108 4,BI 109 .sub 108 1,MV 110 5,BI 111 .sub 110 1,OP 112 (.call 100 [.t 107,.t 109,.t 111])] 0 [0]) (.seq (SR [OP 114 (.bin .eql (.t 16) (.c (.int .u8 74))),MV 113 114] [0,3,4,6,16,113] (.cond (.t 113) .skip (.reg [OP 115 (.bin .eql (.t 16) (.c (.int .u8 75))),MV 113 115] 0 [0,3,4,6,16,113]))) (.cond (.t 113) (.reg [MV 116 0,FA 117 2 3,LD 118 117,MV 119 6,OP 120 (.call 101 [.t 116,.t 118,.t 119])] 0 [0]) (.seq (SR [OP 122 (.bin .eql (.t 16) (.c (.int .u8 76))),MV 121 122] [0,3,4,6,16,121] (.cond (.t 121) .skip (SR [OP 123 (.bin .eql (.t 16) (.c (.int .u8 77))),MV 121 123] [0,3,4,6,16,121] (.cond (.t 121) .skip (SR [OP 124 (.bin .eql (.t 16) (.c (.int .u8 83))),MV 121 124] [0,3,4,6,16,121] (.cond (.t 121) .skip (.reg [OP 125 (.bin .eql (.t 16) (.c (.int .u8 84))),MV 121 125] 0 [0,3,4,6,16,121]))))))) (.cond (.t 121) (.reg [MV 126 0,FA 127 2 3,LD 128 127,MV 129 4,OP 130 (.call 102 [.t 126,.t 128,.t 129])] 0 [0]) (SR [OP 132 (.bin .eql (.t 16) (.c (.int .u8 64))),MV 131 132] [0,3,4,6,16,131] (.cond (.t 131) (.cJ (.take (MV 133 0) [] (.take (MV 134 0) [] (.take (OP 135 (.aF (.t 134))) [] (.take (FA 136 0 135) [] (.take (FA 137 2 136) [] (.take (LD 138 137) [] (.take (MV 139 0) [] (.take (OP 140 (.aF (.t 139))) [] (.take (FA 141 0 140) [] (.take (FA 142 1 141) [] (.take (LD 143 142) [] (.take (MV 144 0) [] (.take (OP 145 (.aF (.t 144))) [] (.take (FA 146 0 145) [] (.take (FA 147 3 146) [] (.take (LD 148 147) [] (.take (MV 149 0) [] (.take (OP 150 (.aF (.t 149))) [] (.take (FA 151 0 150) [] (.take (FA 152 4 151) [] (.take (LD 153 152) [] (.take (MV 154 4) [] (.mid (OP 155 (.call 103 [.t 138,.t 143,.t 148,.t 153,.t 154])) (.take (OP 156 (.aF (.t 133))) [] (.take (FA 157 0 156) [] (.take (FA 158 2 157) [] (.op (SA 1 158 155) .done))))))))))))))))))))))))))) 0 [0]) (SR [OP 160 (.bin .eql (.t 16) (.c (.int .u8 80))),MV 159 160] [0,3,4,6,16,159] (.cond (.t 159) (.cJ (.take (MV 161 0) [] (.take (MV 162 0) [] (.take (OP 163 (.aF (.t 162))) [] (.take (FA 164 0 163) [] (.take (FA 165 2 164) [] (.take (LD 166 165) [] (.take (MV 167 0) [] (.take (OP 168 (.aF (.t 167))) [] (.take (FA 169 0 168) [] (.take (FA 170 1 169) [] (.take (LD 171 170) [] (.take (MV 172 0) [] (.take (OP 173 (.aF (.t 172))) [] (.take (FA 174 0 173) [] (.take (FA 175 3 174) [] (.take (LD 176 175) [] (.take (MV 177 0) [] (.take (OP 178 (.aF (.t 177))) [] (.take (FA 179 0 178) [] (.take (FA 180 4 179) [] (.take (LD 181 180) [] (.take (MV 182 4) [] (.mid (OP 183 (.call 104 [.t 166,.t 171,.t 176,.t 181,.t 182])) (.take (OP 184 (.aF (.t 161))) [] (.take (FA 185 0 184) [] (.take (FA 186 2 185) [] (.op (SA 1 186 183) .done))))))))))))))))))))))))))) 0 [0]) (SR [OP 188 (.bin .eql (.t 16) (.c (.int .u8 88))),MV 187 188] [0,3,4,6,16,187] (.cond (.t 187) (.cJ (.take (MV 189 0) [] (.take (MV 190 0) [] (.take (OP 191 (.aF (.t 190))) [] (.take (FA 192 0 191) [] (.take (FA 193 2 192) [] (.take (LD 194 193) [] (.take (MV 195 0) [] (.take (OP 196 (.aF (.t 195))) [] (.take (FA 197 0 196) [] (.take (FA 198 1 197) [] (.take (LD 199 198) [] (.take (MV 200 0) [] (.take (OP 201 (.aF (.t 200))) [] (.take (FA 202 0 201) [] (.take (FA 203 3 202) [] (.take (LD 204 203) [] (.take (MV 205 0) [] (.take (OP 206 (.aF (.t 205))) [] (.take (FA 207 0 206) [] (.take (FA 208 4 207) [] (.take (LD 209 208) [] (.take (MV 210 0) [] (.take (OP 211 (.aF (.t 210))) [] (.take (FA 212 0 211) [] (.take (FA 213 4 212) [] (.take (LD 214 213) [] (.take (MV 215 4) [] (.take (BT 216 .add 214 215) [] (.mid (OP 217 (.call 105 [.t 194,.t 199,.t 204,.t 209,.t 216])) (.take (OP 218 (.aF (.t 189))) [] (.take (FA 219 0 218) [] (.take (FA 220 2 219) [] (.op (SA 1 220 217) .done))))))))))))))))))))))))))))))))) 0 [0]) (SR [OP 222 (.bin .eql (.t 16) (.c (.int .u8 114))),MV 221 222] [0,3,4,6,16,221] (.cond (.t 221) (SR [MV 223 0,MV 224 4,BI 225 .sub 224 1,LT 226 6 3,OP 227 (.call 99 [.t 226,.c (.int .i64 1)]),OP 228 (.call 106 [.t 223,.t 225,.t 227])] [] .ret) (SR [OP 230 (.bin .eql (.t 16) (.c (.int .u8 103))),MV 229 230] [0,3,6,16,229] (.cond (.t 229) (SR [MV 231 0,MV 232 6,OP 233 (.call 107 [.t 231,.t 232])] [] .ret) (SR [OP 235 (.bin .eql (.t 16) (.c (.int .u8 109))),MV 234 235] [0,3,234] (.cond (.t 234) (SR [MV 236 0,FA 237 4 3,LD 238 237,OP 239 (.call 108 [.t 236,.t 238])] [] .ret) .ret)))))))))))))))))))))))))))))))) (.reg [MV 240 0,OP 241 (.aF (.t 240)),FA 242 0 241,FA 243 5 242,NP (.store 1 (.t 243) (.c (.bool false)))] 0 [])))),[]⟩
theorem cj:aK PG.P (aA PG.P 65 bE) 65=some bE:=by kernel_rfl
theorem bJ (h:∀k∈ps,0<=k/\k<=65535)(i:Nat):0<=bF ps i/\bF ps i<=65535:=by
 unfold bF
 rw[List.getD_eq_getElem?_getD]
 rcases hh:ps[i]? with _ | v
 ·simp
 ·exact h v (List.mem_of_getElem? hh)
theorem fy {l:List Int}(hl:l.length<=1000000)(h:∀n∈l,0<=n/\n<=65535):inK .i64 l:=⟨by omega,fun n hn=>by have:=h n hn;have:=aaf;omega⟩
theorem cG (args:List DV):tab Bd 100 args=none:=ak _
theorem bL (args:List DV):tab Bd 101 args=none:=ak _
theorem bT (args:List DV):tab Bd 102 args=none:=ak _
theorem cm (args:List DV):tab Bd 103 args=none:=ak _
theorem cr (args:List DV):tab Bd 104 args=none:=ak _
theorem cq (args:List DV):tab Bd 105 args=none:=ak _
theorem ck (args:List DV):tab Bd 106 args=none:=ak _
theorem ct (args:List DV):tab Bd 107 args=none:=ak _
theorem cu (args:List DV):tab Bd 108 args=none:=ak _
theorem W8 (hs:sz=1\/ps=[])(hl:ps.length<=1000000)(hps:∀k∈ps,0<=k/\k<=65535)(hd2:DV.one d2=true)(ok:aR s)(h:aB T0 T o s p)
  (hK:∀T',T.length<=T'.length->aB T0 T' o (eS s 65 ps) p->K (.tup []) T'):aj PG 65 [.ptr o 0 0,acD ka r 65 pv (.sl sz (af .i64 ps) sk) d2] T K:=by
 unfold acD
 obtain ⟨k0,q,tq,od,m,pr,d1,e2,e3,pa,t⟩:=id h
 have hb:=t.box
 unfold aN at hb
 have hr:=ok.g.r
 have hc:=ok.g.c
 have hy:=ok.y
 have hx:=ok.x
 have p0:=bJ hps 0
 have p1:=bJ hps 1
 have i1:aD .i64 (.sl sz (af .i64 ps) sk):=aQ hs (fy hl hps)
 have w1:IntKind.i64.wrap ((s.y:Int)-max (bF ps 0) 1)=(s.y:Int)-max (bF ps 0) 1:=aO (by omega) (by omega)
 refine aj.aE dZ cj (by simp[bE]) ?_
 unfold bE
 dsimp only
 simp -implicitDefEqProofs -dsimp only[ah,ai hb,hd2,ef,cV,i1,hl,aL,cG,bL,bT,cm,cr,cq,ck,ct,cu,w1,vcS,↓vcQ,simprocAttr]
 have h1:aB T0 (T++ [some (Ob.box [.int .i64 ka,.int .i32 r,.int .u8 65,.int .u8 pv,.sl sz (af .i64 ps) sk,d2])]) o s p:=h.keep (ax.app _ _ _)
 refine uB hr hc h1 fun T' l t'=>?_
 obtain ⟨k1,q',tq',od',m',pr',f1,f2,f3,pa',t2⟩:=t'
 have hb2:=t2.box
 unfold aN at hb2
 simp -implicitDefEqProofs -dsimp only[ah,ai hb2,vcS,↓vcQ,simprocAttr]
 have ll:T.length<=T'.length:=by simp at l;omega
 exact ⟨by simpa using ll,hK _ (by simpa using ll) (aB.mk (s:=eS s 65 ps) (k1.put t2.no _) pa' (t2.put rfl rfl rfl rfl rfl))⟩
theorem W7 (hs:sz=1\/ps=[])(hl:ps.length<=1000000)(hps:∀k∈ps,0<=k/\k<=65535)(hd2:DV.one d2=true)(ok:aR s)(h:aB T0 T o s p)
  (hK:∀T',T.length<=T'.length->aB T0 T' o (eS s 66 ps) p->K (.tup []) T'):aj PG 65 [.ptr o 0 0,acD ka r 66 pv (.sl sz (af .i64 ps) sk) d2] T K:=by
 unfold acD
 obtain ⟨k0,q,tq,od,m,pr,d1,e2,e3,pa,t⟩:=id h
 have hb:=t.box
 unfold aN at hb
 have hr:=ok.g.r
 have hc:=ok.g.c
 have hy:=ok.y
 have hx:=ok.x
 have p0:=bJ hps 0
 have p1:=bJ hps 1
 have i1:aD .i64 (.sl sz (af .i64 ps) sk):=aQ hs (fy hl hps)
 have w1:IntKind.i64.wrap ((s.y:Int)+max (bF ps 0) 1)=(s.y:Int)+max (bF ps 0) 1:=aO (by omega) (by omega)
 refine aj.aE dZ cj (by simp[bE]) ?_
 unfold bE
 dsimp only
 simp -implicitDefEqProofs -dsimp only[ah,ai hb,hd2,ef,cV,i1,hl,aL,cG,bL,bT,cm,cr,cq,ck,ct,cu,w1,vcS,↓vcQ,simprocAttr]
 have h1:aB T0 (T++ [some (Ob.box [.int .i64 ka,.int .i32 r,.int .u8 66,.int .u8 pv,.sl sz (af .i64 ps) sk,d2])]) o s p:=h.keep (ax.app _ _ _)
 refine uB hr hc h1 fun T' l t'=>?_
 obtain ⟨k1,q',tq',od',m',pr',f1,f2,f3,pa',t2⟩:=t'
 have hb2:=t2.box
 unfold aN at hb2
 simp -implicitDefEqProofs -dsimp only[ah,ai hb2,vcS,↓vcQ,simprocAttr]
 have ll:T.length<=T'.length:=by simp at l;omega
 exact ⟨by simpa using ll,hK _ (by simpa using ll) (aB.mk (s:=eS s 66 ps) (k1.put t2.no _) pa' (t2.put rfl rfl rfl rfl rfl))⟩
theorem W6 (hs:sz=1\/ps=[])(hl:ps.length<=1000000)(hps:∀k∈ps,0<=k/\k<=65535)(hd2:DV.one d2=true)(ok:aR s)(h:aB T0 T o s p)
  (hK:∀T',T.length<=T'.length->aB T0 T' o (eS s 67 ps) p->K (.tup []) T'):aj PG 65 [.ptr o 0 0,acD ka r 67 pv (.sl sz (af .i64 ps) sk) d2] T K:=by
 unfold acD
 obtain ⟨k0,q,tq,od,m,pr,d1,e2,e3,pa,t⟩:=id h
 have hb:=t.box
 unfold aN at hb
 have hr:=ok.g.r
 have hc:=ok.g.c
 have hy:=ok.y
 have hx:=ok.x
 have p0:=bJ hps 0
 have p1:=bJ hps 1
 have i1:aD .i64 (.sl sz (af .i64 ps) sk):=aQ hs (fy hl hps)
 have w2:IntKind.i64.wrap ((s.x:Int)+max (bF ps 0) 1)=(s.x:Int)+max (bF ps 0) 1:=aO (by omega) (by omega)
 refine aj.aE dZ cj (by simp[bE]) ?_
 unfold bE
 dsimp only
 simp -implicitDefEqProofs -dsimp only[ah,ai hb,hd2,ef,cV,i1,hl,aL,cG,bL,bT,cm,cr,cq,ck,ct,cu,w2,vcS,↓vcQ,simprocAttr]
 have h1:aB T0 (T++ [some (Ob.box [.int .i64 ka,.int .i32 r,.int .u8 67,.int .u8 pv,.sl sz (af .i64 ps) sk,d2])]) o s p:=h.keep (ax.app _ _ _)
 refine uB hr hc h1 fun T' l t'=>?_
 obtain ⟨k1,q',tq',od',m',pr',f1,f2,f3,pa',t2⟩:=t'
 have hb2:=t2.box
 unfold aN at hb2
 simp -implicitDefEqProofs -dsimp only[ah,ai hb2,vcS,↓vcQ,simprocAttr]
 have ll:T.length<=T'.length:=by simp at l;omega
 exact ⟨by simpa using ll,hK _ (by simpa using ll) (aB.mk (s:=eS s 67 ps) (k1.put t2.no _) pa' (t2.put rfl rfl rfl rfl rfl))⟩
theorem W5 (hs:sz=1\/ps=[])(hl:ps.length<=1000000)(hps:∀k∈ps,0<=k/\k<=65535)(hd2:DV.one d2=true)(ok:aR s)(h:aB T0 T o s p)
  (hK:∀T',T.length<=T'.length->aB T0 T' o (eS s 68 ps) p->K (.tup []) T'):aj PG 65 [.ptr o 0 0,acD ka r 68 pv (.sl sz (af .i64 ps) sk) d2] T K:=by
 unfold acD
 obtain ⟨k0,q,tq,od,m,pr,d1,e2,e3,pa,t⟩:=id h
 have hb:=t.box
 unfold aN at hb
 have hr:=ok.g.r
 have hc:=ok.g.c
 have hy:=ok.y
 have hx:=ok.x
 have p0:=bJ hps 0
 have p1:=bJ hps 1
 have i1:aD .i64 (.sl sz (af .i64 ps) sk):=aQ hs (fy hl hps)
 have w2:IntKind.i64.wrap ((s.x:Int)-max (bF ps 0) 1)=(s.x:Int)-max (bF ps 0) 1:=aO (by omega) (by omega)
 refine aj.aE dZ cj (by simp[bE]) ?_
 unfold bE
 dsimp only
 simp -implicitDefEqProofs -dsimp only[ah,ai hb,hd2,ef,cV,i1,hl,aL,cG,bL,bT,cm,cr,cq,ck,ct,cu,w2,vcS,↓vcQ,simprocAttr]
 have h1:aB T0 (T++ [some (Ob.box [.int .i64 ka,.int .i32 r,.int .u8 68,.int .u8 pv,.sl sz (af .i64 ps) sk,d2])]) o s p:=h.keep (ax.app _ _ _)
 refine uB hr hc h1 fun T' l t'=>?_
 obtain ⟨k1,q',tq',od',m',pr',f1,f2,f3,pa',t2⟩:=t'
 have hb2:=t2.box
 unfold aN at hb2
 simp -implicitDefEqProofs -dsimp only[ah,ai hb2,vcS,↓vcQ,simprocAttr]
 have ll:T.length<=T'.length:=by simp at l;omega
 exact ⟨by simpa using ll,hK _ (by simpa using ll) (aB.mk (s:=eS s 68 ps) (k1.put t2.no _) pa' (t2.put rfl rfl rfl rfl rfl))⟩
theorem W4 (hs:sz=1\/ps=[])(hl:ps.length<=1000000)(hps:∀k∈ps,0<=k/\k<=65535)(hd2:DV.one d2=true)(ok:aR s)(h:aB T0 T o s p)
  (hK:∀T',T.length<=T'.length->aB T0 T' o (eS s 71 ps) p->K (.tup []) T'):aj PG 65 [.ptr o 0 0,acD ka r 71 pv (.sl sz (af .i64 ps) sk) d2] T K:=by
 unfold acD
 obtain ⟨k0,q,tq,od,m,pr,d1,e2,e3,pa,t⟩:=id h
 have hb:=t.box
 unfold aN at hb
 have hr:=ok.g.r
 have hc:=ok.g.c
 have hy:=ok.y
 have hx:=ok.x
 have p0:=bJ hps 0
 have p1:=bJ hps 1
 have i1:aD .i64 (.sl sz (af .i64 ps) sk):=aQ hs (fy hl hps)
 have w2:IntKind.i64.wrap (max (bF ps 0) 1-1)=max (bF ps 0) 1-1:=aO (by omega) (by omega)
 refine aj.aE dZ cj (by simp[bE]) ?_
 unfold bE
 dsimp only
 simp -implicitDefEqProofs -dsimp only[ah,ai hb,hd2,ef,cV,i1,hl,aL,cG,bL,bT,cm,cr,cq,ck,ct,cu,w2,vcS,↓vcQ,simprocAttr]
 have h1:aB T0 (T++ [some (Ob.box [.int .i64 ka,.int .i32 r,.int .u8 71,.int .u8 pv,.sl sz (af .i64 ps) sk,d2])]) o s p:=h.keep (ax.app _ _ _)
 refine uB hr hc h1 fun T' l t'=>?_
 obtain ⟨k1,q',tq',od',m',pr',f1,f2,f3,pa',t2⟩:=t'
 have hb2:=t2.box
 unfold aN at hb2
 simp -implicitDefEqProofs -dsimp only[ah,ai hb2,vcS,↓vcQ,simprocAttr]
 have ll:T.length<=T'.length:=by simp at l;omega
 exact ⟨by simpa using ll,hK _ (by simpa using ll) (aB.mk (s:=eS s 71 ps) (k1.put t2.no _) pa' (t2.put rfl rfl rfl rfl rfl))⟩
theorem WU (hs:sz=1\/ps=[])(hl:ps.length<=1000000)(hps:∀k∈ps,0<=k/\k<=65535)(hd2:DV.one d2=true)(ok:aR s)(h:aB T0 T o s p)
  (hK:∀T',T.length<=T'.length->aB T0 T' o (eS s 96 ps) p->K (.tup []) T'):aj PG 65 [.ptr o 0 0,acD ka r 96 pv (.sl sz (af .i64 ps) sk) d2] T K:=by
 unfold acD
 obtain ⟨k0,q,tq,od,m,pr,d1,e2,e3,pa,t⟩:=id h
 have hb:=t.box
 unfold aN at hb
 have hr:=ok.g.r
 have hc:=ok.g.c
 have hy:=ok.y
 have hx:=ok.x
 have p0:=bJ hps 0
 have p1:=bJ hps 1
 have i1:aD .i64 (.sl sz (af .i64 ps) sk):=aQ hs (fy hl hps)
 have w2:IntKind.i64.wrap (max (bF ps 0) 1-1)=max (bF ps 0) 1-1:=aO (by omega) (by omega)
 refine aj.aE dZ cj (by simp[bE]) ?_
 unfold bE
 dsimp only
 simp -implicitDefEqProofs -dsimp only[ah,ai hb,hd2,ef,cV,i1,hl,aL,cG,bL,bT,cm,cr,cq,ck,ct,cu,w2,vcS,↓vcQ,simprocAttr]
 have h1:aB T0 (T++ [some (Ob.box [.int .i64 ka,.int .i32 r,.int .u8 96,.int .u8 pv,.sl sz (af .i64 ps) sk,d2])]) o s p:=h.keep (ax.app _ _ _)
 refine uB hr hc h1 fun T' l t'=>?_
 obtain ⟨k1,q',tq',od',m',pr',f1,f2,f3,pa',t2⟩:=t'
 have hb2:=t2.box
 unfold aN at hb2
 simp -implicitDefEqProofs -dsimp only[ah,ai hb2,vcS,↓vcQ,simprocAttr]
 have ll:T.length<=T'.length:=by simp at l;omega
 exact ⟨by simpa using ll,hK _ (by simpa using ll) (aB.mk (s:=eS s 96 ps) (k1.put t2.no _) pa' (t2.put rfl rfl rfl rfl rfl))⟩
theorem QW (hs:sz=1\/ps=[])(hl:ps.length<=1000000)(hps:∀k∈ps,0<=k/\k<=65535)(hd2:DV.one d2=true)(ok:aR s)(h:aB T0 T o s p)
  (hK:∀T',T.length<=T'.length->aB T0 T' o (eS s 100 ps) p->K (.tup []) T'):aj PG 65 [.ptr o 0 0,acD ka r 100 pv (.sl sz (af .i64 ps) sk) d2] T K:=by
 unfold acD
 obtain ⟨k0,q,tq,od,m,pr,d1,e2,e3,pa,t⟩:=id h
 have hb:=t.box
 unfold aN at hb
 have hr:=ok.g.r
 have hc:=ok.g.c
 have hy:=ok.y
 have hx:=ok.x
 have p0:=bJ hps 0
 have p1:=bJ hps 1
 have i1:aD .i64 (.sl sz (af .i64 ps) sk):=aQ hs (fy hl hps)
 have w1:IntKind.i64.wrap (max (bF ps 0) 1-1)=max (bF ps 0) 1-1:=aO (by omega) (by omega)
 refine aj.aE dZ cj (by simp[bE]) ?_
 unfold bE
 dsimp only
 simp -implicitDefEqProofs -dsimp only[ah,ai hb,hd2,ef,cV,i1,hl,aL,cG,bL,bT,cm,cr,cq,ck,ct,cu,w1,vcS,↓vcQ,simprocAttr]
 have h1:aB T0 (T++ [some (Ob.box [.int .i64 ka,.int .i32 r,.int .u8 100,.int .u8 pv,.sl sz (af .i64 ps) sk,d2])]) o s p:=h.keep (ax.app _ _ _)
 refine uB hr hc h1 fun T' l t'=>?_
 obtain ⟨k1,q',tq',od',m',pr',f1,f2,f3,pa',t2⟩:=t'
 have hb2:=t2.box
 unfold aN at hb2
 simp -implicitDefEqProofs -dsimp only[ah,ai hb2,vcS,↓vcQ,simprocAttr]
 have ll:T.length<=T'.length:=by simp at l;omega
 exact ⟨by simpa using ll,hK _ (by simpa using ll) (aB.mk (s:=eS s 100 ps) (k1.put t2.no _) pa' (t2.put rfl rfl rfl rfl rfl))⟩
theorem W3 (hs:sz=1\/ps=[])(hl:ps.length<=1000000)(hps:∀k∈ps,0<=k/\k<=65535)(hd2:DV.one d2=true)(ok:aR s)(h:aB T0 T o s p)
  (hK:∀T',T.length<=T'.length->aB T0 T' o (eS s 72 ps) p->K (.tup []) T'):aj PG 65 [.ptr o 0 0,acD ka r 72 pv (.sl sz (af .i64 ps) sk) d2] T K:=by
 unfold acD
 obtain ⟨k0,q,tq,od,m,pr,d1,e2,e3,pa,t⟩:=id h
 have hb:=t.box
 unfold aN at hb
 have hr:=ok.g.r
 have hc:=ok.g.c
 have hy:=ok.y
 have hx:=ok.x
 have p0:=bJ hps 0
 have p1:=bJ hps 1
 have i1:aD .i64 (.sl sz (af .i64 ps) sk):=aQ hs (fy hl hps)
 have w1:IntKind.i64.wrap (max (bF ps 0) 1-1)=max (bF ps 0) 1-1:=aO (by omega) (by omega)
 have w2:IntKind.i64.wrap (max (bF ps 1) 1-1)=max (bF ps 1) 1-1:=aO (by omega) (by omega)
 refine aj.aE dZ cj (by simp[bE]) ?_
 unfold bE
 dsimp only
 simp -implicitDefEqProofs -dsimp only[ah,ai hb,hd2,ef,cV,i1,hl,aL,cG,bL,bT,cm,cr,cq,ck,ct,cu,w1,w2,vcS,↓vcQ,simprocAttr]
 have h1:aB T0 (T++ [some (Ob.box [.int .i64 ka,.int .i32 r,.int .u8 72,.int .u8 pv,.sl sz (af .i64 ps) sk,d2])]) o s p:=h.keep (ax.app _ _ _)
 refine uB hr hc h1 fun T' l t'=>?_
 obtain ⟨k1,q',tq',od',m',pr',f1,f2,f3,pa',t2⟩:=t'
 have hb2:=t2.box
 unfold aN at hb2
 simp -implicitDefEqProofs -dsimp only[ah,ai hb2,vcS,↓vcQ,simprocAttr]
 have ll:T.length<=T'.length:=by simp at l;omega
 exact ⟨by simpa using ll,hK _ (by simpa using ll) (aB.mk (s:=eS s 72 ps) (k1.put t2.no _) pa' (t2.put rfl rfl rfl rfl rfl))⟩
theorem QV (hs:sz=1\/ps=[])(hl:ps.length<=1000000)(hps:∀k∈ps,0<=k/\k<=65535)(hd2:DV.one d2=true)(ok:aR s)(h:aB T0 T o s p)
  (hK:∀T',T.length<=T'.length->aB T0 T' o (eS s 102 ps) p->K (.tup []) T'):aj PG 65 [.ptr o 0 0,acD ka r 102 pv (.sl sz (af .i64 ps) sk) d2] T K:=by
 unfold acD
 obtain ⟨k0,q,tq,od,m,pr,d1,e2,e3,pa,t⟩:=id h
 have hb:=t.box
 unfold aN at hb
 have hr:=ok.g.r
 have hc:=ok.g.c
 have hy:=ok.y
 have hx:=ok.x
 have p0:=bJ hps 0
 have p1:=bJ hps 1
 have i1:aD .i64 (.sl sz (af .i64 ps) sk):=aQ hs (fy hl hps)
 have w1:IntKind.i64.wrap (max (bF ps 0) 1-1)=max (bF ps 0) 1-1:=aO (by omega) (by omega)
 have w2:IntKind.i64.wrap (max (bF ps 1) 1-1)=max (bF ps 1) 1-1:=aO (by omega) (by omega)
 refine aj.aE dZ cj (by simp[bE]) ?_
 unfold bE
 dsimp only
 simp -implicitDefEqProofs -dsimp only[ah,ai hb,hd2,ef,cV,i1,hl,aL,cG,bL,bT,cm,cr,cq,ck,ct,cu,w1,w2,vcS,↓vcQ,simprocAttr]
 have h1:aB T0 (T++ [some (Ob.box [.int .i64 ka,.int .i32 r,.int .u8 102,.int .u8 pv,.sl sz (af .i64 ps) sk,d2])]) o s p:=h.keep (ax.app _ _ _)
 refine uB hr hc h1 fun T' l t'=>?_
 obtain ⟨k1,q',tq',od',m',pr',f1,f2,f3,pa',t2⟩:=t'
 have hb2:=t2.box
 unfold aN at hb2
 simp -implicitDefEqProofs -dsimp only[ah,ai hb2,vcS,↓vcQ,simprocAttr]
 have ll:T.length<=T'.length:=by simp at l;omega
 exact ⟨by simpa using ll,hK _ (by simpa using ll) (aB.mk (s:=eS s 102 ps) (k1.put t2.no _) pa' (t2.put rfl rfl rfl rfl rfl))⟩
theorem W2 (hs:sz=1\/ps=[])(hl:ps.length<=1000000)(hps:∀k∈ps,0<=k/\k<=65535)(hd2:DV.one d2=true)(ok:aR s)(h:aB T0 T o s p)
  (hK:∀T',T.length<=T'.length->aB T0 T' o (eS s 74 ps) p->K (.tup []) T'):aj PG 65 [.ptr o 0 0,acD ka r 74 pv (.sl sz (af .i64 ps) sk) d2] T K:=by
 unfold acD
 obtain ⟨k0,q,tq,od,m,pr,d1,e2,e3,pa,t⟩:=id h
 have hb:=t.box
 unfold aN at hb
 have hr:=ok.g.r
 have hc:=ok.g.c
 have hy:=ok.y
 have hx:=ok.x
 have p0:=bJ hps 0
 have p1:=bJ hps 1
 have i1:aD .i64 (.sl sz (af .i64 ps) sk):=aQ hs (fy hl hps)
 refine aj.aE dZ cj (by simp[bE]) ?_
 unfold bE
 dsimp only
 simp -implicitDefEqProofs -dsimp only[ah,ai hb,hd2,ef,cV,i1,hl,aL,cG,bL,bT,cm,cr,cq,ck,ct,cu,vcS,↓vcQ,simprocAttr]
 have h1:aB T0 (T++ [some (Ob.box [.int .i64 ka,.int .i32 r,.int .u8 74,.int .u8 pv,.sl sz (af .i64 ps) sk,d2])]) o s p:=h.keep (ax.app _ _ _)
 refine Gc (row:=false) ok h1 fun T' l t'=>?_
 obtain ⟨k1,q',tq',od',m',pr',f1,f2,f3,pa',t2⟩:=t'
 have hb2:=t2.box
 unfold aN at hb2
 simp -implicitDefEqProofs -dsimp only[ah,ai hb2,vcS,↓vcQ,simprocAttr]
 have ll:T.length<=T'.length:=by simp at l;omega
 exact ⟨by simpa using ll,hK _ (by simpa using ll) (by rw[DC.1];exact .mk (k1.put t2.no _) pa' (t2.put rfl rfl rfl rfl rfl))⟩
theorem W1 (hs:sz=1\/ps=[])(hl:ps.length<=1000000)(hps:∀k∈ps,0<=k/\k<=65535)(hd2:DV.one d2=true)(ok:aR s)(h:aB T0 T o s p)
  (hK:∀T',T.length<=T'.length->aB T0 T' o (eS s 75 ps) p->K (.tup []) T'):aj PG 65 [.ptr o 0 0,acD ka r 75 pv (.sl sz (af .i64 ps) sk) d2] T K:=by
 unfold acD
 obtain ⟨k0,q,tq,od,m,pr,d1,e2,e3,pa,t⟩:=id h
 have hb:=t.box
 unfold aN at hb
 have hr:=ok.g.r
 have hc:=ok.g.c
 have hy:=ok.y
 have hx:=ok.x
 have p0:=bJ hps 0
 have p1:=bJ hps 1
 have i1:aD .i64 (.sl sz (af .i64 ps) sk):=aQ hs (fy hl hps)
 refine aj.aE dZ cj (by simp[bE]) ?_
 unfold bE
 dsimp only
 simp -implicitDefEqProofs -dsimp only[ah,ai hb,hd2,ef,cV,i1,hl,aL,cG,bL,bT,cm,cr,cq,ck,ct,cu,vcS,↓vcQ,simprocAttr]
 have h1:aB T0 (T++ [some (Ob.box [.int .i64 ka,.int .i32 r,.int .u8 75,.int .u8 pv,.sl sz (af .i64 ps) sk,d2])]) o s p:=h.keep (ax.app _ _ _)
 refine Gc (row:=true) ok h1 fun T' l t'=>?_
 obtain ⟨k1,q',tq',od',m',pr',f1,f2,f3,pa',t2⟩:=t'
 have hb2:=t2.box
 unfold aN at hb2
 simp -implicitDefEqProofs -dsimp only[ah,ai hb2,vcS,↓vcQ,simprocAttr]
 have ll:T.length<=T'.length:=by simp at l;omega
 exact ⟨by simpa using ll,hK _ (by simpa using ll) (by rw[DC.2];exact .mk (k1.put t2.no _) pa' (t2.put rfl rfl rfl rfl rfl))⟩
theorem W0 (hs:sz=1\/ps=[])(hl:ps.length<=1000000)(hps:∀k∈ps,0<=k/\k<=65535)(hd2:DV.one d2=true)(ok:aR s)(h:aB T0 T o s p)
  (hK:∀T',T.length<=T'.length->aB T0 T' o (eS s 76 ps) p->K (.tup []) T'):aj PG 65 [.ptr o 0 0,acD ka r 76 pv (.sl sz (af .i64 ps) sk) d2] T K:=by
 unfold acD
 obtain ⟨k0,q,tq,od,m,pr,d1,e2,e3,pa,t⟩:=id h
 have hb:=t.box
 unfold aN at hb
 have hr:=ok.g.r
 have hc:=ok.g.c
 have hy:=ok.y
 have hx:=ok.x
 have p0:=bJ hps 0
 have p1:=bJ hps 1
 have i1:aD .i64 (.sl sz (af .i64 ps) sk):=aQ hs (fy hl hps)
 refine aj.aE dZ cj (by simp[bE]) ?_
 unfold bE
 dsimp only
 simp -implicitDefEqProofs -dsimp only[ah,ai hb,hd2,ef,cV,i1,hl,aL,cG,bL,bT,cm,cr,cq,ck,ct,cu,vcS,↓vcQ,simprocAttr]
 have h1:aB T0 (T++ [some (Ob.box [.int .i64 ka,.int .i32 r,.int .u8 76,.int .u8 pv,.sl sz (af .i64 ps) sk,d2])]) o s p:=h.keep (ax.app _ _ _)
 refine yT (n:=max (bF ps 0) 1) ok (by decide) h1 fun T' l t'=>?_
 obtain ⟨k1,q',tq',od',m',pr',f1,f2,f3,pa',t2⟩:=t'
 have hb2:=t2.box
 unfold aN at hb2
 simp -implicitDefEqProofs -dsimp only[ah,ai hb2,vcS,↓vcQ,simprocAttr]
 have ll:T.length<=T'.length:=by simp at l;omega
 exact ⟨by simpa using ll,hK _ (by simpa using ll) (by rw[vZ (by decide)];exact .mk (k1.put t2.no _) pa' (t2.put rfl rfl rfl rfl rfl))⟩
theorem WZ (hs:sz=1\/ps=[])(hl:ps.length<=1000000)(hps:∀k∈ps,0<=k/\k<=65535)(hd2:DV.one d2=true)(ok:aR s)(h:aB T0 T o s p)
  (hK:∀T',T.length<=T'.length->aB T0 T' o (eS s 77 ps) p->K (.tup []) T'):aj PG 65 [.ptr o 0 0,acD ka r 77 pv (.sl sz (af .i64 ps) sk) d2] T K:=by
 unfold acD
 obtain ⟨k0,q,tq,od,m,pr,d1,e2,e3,pa,t⟩:=id h
 have hb:=t.box
 unfold aN at hb
 have hr:=ok.g.r
 have hc:=ok.g.c
 have hy:=ok.y
 have hx:=ok.x
 have p0:=bJ hps 0
 have p1:=bJ hps 1
 have i1:aD .i64 (.sl sz (af .i64 ps) sk):=aQ hs (fy hl hps)
 refine aj.aE dZ cj (by simp[bE]) ?_
 unfold bE
 dsimp only
 simp -implicitDefEqProofs -dsimp only[ah,ai hb,hd2,ef,cV,i1,hl,aL,cG,bL,bT,cm,cr,cq,ck,ct,cu,vcS,↓vcQ,simprocAttr]
 have h1:aB T0 (T++ [some (Ob.box [.int .i64 ka,.int .i32 r,.int .u8 77,.int .u8 pv,.sl sz (af .i64 ps) sk,d2])]) o s p:=h.keep (ax.app _ _ _)
 refine yT (n:=max (bF ps 0) 1) ok (by decide) h1 fun T' l t'=>?_
 obtain ⟨k1,q',tq',od',m',pr',f1,f2,f3,pa',t2⟩:=t'
 have hb2:=t2.box
 unfold aN at hb2
 simp -implicitDefEqProofs -dsimp only[ah,ai hb2,vcS,↓vcQ,simprocAttr]
 have ll:T.length<=T'.length:=by simp at l;omega
 exact ⟨by simpa using ll,hK _ (by simpa using ll) (by rw[vZ (by decide)];exact .mk (k1.put t2.no _) pa' (t2.put rfl rfl rfl rfl rfl))⟩
theorem WX (hs:sz=1\/ps=[])(hl:ps.length<=1000000)(hps:∀k∈ps,0<=k/\k<=65535)(hd2:DV.one d2=true)(ok:aR s)(h:aB T0 T o s p)
  (hK:∀T',T.length<=T'.length->aB T0 T' o (eS s 83 ps) p->K (.tup []) T'):aj PG 65 [.ptr o 0 0,acD ka r 83 pv (.sl sz (af .i64 ps) sk) d2] T K:=by
 unfold acD
 obtain ⟨k0,q,tq,od,m,pr,d1,e2,e3,pa,t⟩:=id h
 have hb:=t.box
 unfold aN at hb
 have hr:=ok.g.r
 have hc:=ok.g.c
 have hy:=ok.y
 have hx:=ok.x
 have p0:=bJ hps 0
 have p1:=bJ hps 1
 have i1:aD .i64 (.sl sz (af .i64 ps) sk):=aQ hs (fy hl hps)
 refine aj.aE dZ cj (by simp[bE]) ?_
 unfold bE
 dsimp only
 simp -implicitDefEqProofs -dsimp only[ah,ai hb,hd2,ef,cV,i1,hl,aL,cG,bL,bT,cm,cr,cq,ck,ct,cu,vcS,↓vcQ,simprocAttr]
 have h1:aB T0 (T++ [some (Ob.box [.int .i64 ka,.int .i32 r,.int .u8 83,.int .u8 pv,.sl sz (af .i64 ps) sk,d2])]) o s p:=h.keep (ax.app _ _ _)
 refine yT (n:=max (bF ps 0) 1) ok (by decide) h1 fun T' l t'=>?_
 obtain ⟨k1,q',tq',od',m',pr',f1,f2,f3,pa',t2⟩:=t'
 have hb2:=t2.box
 unfold aN at hb2
 simp -implicitDefEqProofs -dsimp only[ah,ai hb2,vcS,↓vcQ,simprocAttr]
 have ll:T.length<=T'.length:=by simp at l;omega
 exact ⟨by simpa using ll,hK _ (by simpa using ll) (by rw[vZ (by decide)];exact .mk (k1.put t2.no _) pa' (t2.put rfl rfl rfl rfl rfl))⟩
theorem WW (hs:sz=1\/ps=[])(hl:ps.length<=1000000)(hps:∀k∈ps,0<=k/\k<=65535)(hd2:DV.one d2=true)(ok:aR s)(h:aB T0 T o s p)
  (hK:∀T',T.length<=T'.length->aB T0 T' o (eS s 84 ps) p->K (.tup []) T'):aj PG 65 [.ptr o 0 0,acD ka r 84 pv (.sl sz (af .i64 ps) sk) d2] T K:=by
 unfold acD
 obtain ⟨k0,q,tq,od,m,pr,d1,e2,e3,pa,t⟩:=id h
 have hb:=t.box
 unfold aN at hb
 have hr:=ok.g.r
 have hc:=ok.g.c
 have hy:=ok.y
 have hx:=ok.x
 have p0:=bJ hps 0
 have p1:=bJ hps 1
 have i1:aD .i64 (.sl sz (af .i64 ps) sk):=aQ hs (fy hl hps)
 refine aj.aE dZ cj (by simp[bE]) ?_
 unfold bE
 dsimp only
 simp -implicitDefEqProofs -dsimp only[ah,ai hb,hd2,ef,cV,i1,hl,aL,cG,bL,bT,cm,cr,cq,ck,ct,cu,vcS,↓vcQ,simprocAttr]
 have h1:aB T0 (T++ [some (Ob.box [.int .i64 ka,.int .i32 r,.int .u8 84,.int .u8 pv,.sl sz (af .i64 ps) sk,d2])]) o s p:=h.keep (ax.app _ _ _)
 refine yT (n:=max (bF ps 0) 1) ok (by decide) h1 fun T' l t'=>?_
 obtain ⟨k1,q',tq',od',m',pr',f1,f2,f3,pa',t2⟩:=t'
 have hb2:=t2.box
 unfold aN at hb2
 simp -implicitDefEqProofs -dsimp only[ah,ai hb2,vcS,↓vcQ,simprocAttr]
 have ll:T.length<=T'.length:=by simp at l;omega
 exact ⟨by simpa using ll,hK _ (by simpa using ll) (by rw[vZ (by decide)];exact .mk (k1.put t2.no _) pa' (t2.put rfl rfl rfl rfl rfl))⟩
theorem W9 (hs:sz=1\/ps=[])(hl:ps.length<=1000000)(hps:∀k∈ps,0<=k/\k<=65535)(hd2:DV.one d2=true)(ok:aR s)(h:aB T0 T o s p)
  (hK:∀T',T.length<=T'.length->aB T0 T' o (eS s 64 ps) p->K (.tup []) T'):aj PG 65 [.ptr o 0 0,acD ka r 64 pv (.sl sz (af .i64 ps) sk) d2] T K:=by
 unfold acD
 obtain ⟨k0,q,tq,od,m,pr,d1,e2,e3,pa,t⟩:=id h
 have hb:=t.box
 unfold aN at hb
 have hr:=ok.g.r
 have hc:=ok.g.c
 have hy:=ok.y
 have hx:=ok.x
 have p0:=bJ hps 0
 have p1:=bJ hps 1
 have i1:aD .i64 (.sl sz (af .i64 ps) sk):=aQ hs (fy hl hps)
 refine aj.aE dZ cj (by simp[bE]) ?_
 unfold bE
 dsimp only
 simp -implicitDefEqProofs -dsimp only[ah,ai hb,hd2,ef,cV,i1,hl,aL,cG,bL,bT,cm,cr,cq,ck,ct,cu,vcS,↓vcQ,simprocAttr]
 have t1:=t.mono (ax.app T [some (Ob.box [.int .i64 ka,.int .i32 r,.int .u8 64,.int .u8 pv,.sl sz (af .i64 ps) sk,d2])] [])
 have kk:=k0.dU [some (Ob.box [.int .i64 ka,.int .i32 r,.int .u8 64,.int .u8 pv,.sl sz (af .i64 ps) sk,d2])]
 refine abJ t1.cells ok.g ok.y (Nat.le_of_lt hx) fun T' p' hp hc' k=>?_
 have hb2:=k.at t1.box (by simp)
 unfold aN at hb2
 simp -implicitDefEqProofs -dsimp only[ah,ai hb2,List.set_set,vcS,↓vcQ,simprocAttr]
 have ll:T.length<=T'.length:=by have:=k.1;simp at this;omega
 exact ⟨by simpa using ll,hK _ (by simpa using ll) (aB.BS (s2:={ s with wrap:=false}) pa kk t1 k hp hc' (HC ok.g ok.y) rfl rfl rfl)⟩
theorem WY (hs:sz=1\/ps=[])(hl:ps.length<=1000000)(hps:∀k∈ps,0<=k/\k<=65535)(hd2:DV.one d2=true)(ok:aR s)(h:aB T0 T o s p)
  (hK:∀T',T.length<=T'.length->aB T0 T' o (eS s 80 ps) p->K (.tup []) T'):aj PG 65 [.ptr o 0 0,acD ka r 80 pv (.sl sz (af .i64 ps) sk) d2] T K:=by
 unfold acD
 obtain ⟨k0,q,tq,od,m,pr,d1,e2,e3,pa,t⟩:=id h
 have hb:=t.box
 unfold aN at hb
 have hr:=ok.g.r
 have hc:=ok.g.c
 have hy:=ok.y
 have hx:=ok.x
 have p0:=bJ hps 0
 have p1:=bJ hps 1
 have i1:aD .i64 (.sl sz (af .i64 ps) sk):=aQ hs (fy hl hps)
 refine aj.aE dZ cj (by simp[bE]) ?_
 unfold bE
 dsimp only
 simp -implicitDefEqProofs -dsimp only[ah,ai hb,hd2,ef,cV,i1,hl,aL,cG,bL,bT,cm,cr,cq,ck,ct,cu,vcS,↓vcQ,simprocAttr]
 have t1:=t.mono (ax.app T [some (Ob.box [.int .i64 ka,.int .i32 r,.int .u8 80,.int .u8 pv,.sl sz (af .i64 ps) sk,d2])] [])
 have kk:=k0.dU [some (Ob.box [.int .i64 ka,.int .i32 r,.int .u8 80,.int .u8 pv,.sl sz (af .i64 ps) sk,d2])]
 refine abL t1.cells ok.g ok.y (Nat.le_of_lt hx) fun T' p' hp hc' k=>?_
 have hb2:=k.at t1.box (by simp)
 unfold aN at hb2
 simp -implicitDefEqProofs -dsimp only[ah,ai hb2,List.set_set,vcS,↓vcQ,simprocAttr]
 have ll:T.length<=T'.length:=by have:=k.1;simp at this;omega
 exact ⟨by simpa using ll,hK _ (by simpa using ll) (aB.BS (s2:={ s with wrap:=false}) pa kk t1 k hp hc' (HW ok.g ok.y) rfl rfl rfl)⟩
theorem WV (hs:sz=1\/ps=[])(hl:ps.length<=1000000)(hps:∀k∈ps,0<=k/\k<=65535)(hd2:DV.one d2=true)(ok:aR s)(h:aB T0 T o s p)
  (hK:∀T',T.length<=T'.length->aB T0 T' o (eS s 88 ps) p->K (.tup []) T'):aj PG 65 [.ptr o 0 0,acD ka r 88 pv (.sl sz (af .i64 ps) sk) d2] T K:=by
 unfold acD
 obtain ⟨k0,q,tq,od,m,pr,d1,e2,e3,pa,t⟩:=id h
 have hb:=t.box
 unfold aN at hb
 have hr:=ok.g.r
 have hc:=ok.g.c
 have hy:=ok.y
 have hx:=ok.x
 have p0:=bJ hps 0
 have p1:=bJ hps 1
 have i1:aD .i64 (.sl sz (af .i64 ps) sk):=aQ hs (fy hl hps)
 have w1:IntKind.i64.wrap ((s.x:Int)+max (bF ps 0) 1)=(s.x:Int)+max (bF ps 0) 1:=aO (by omega) (by omega)
 refine aj.aE dZ cj (by simp[bE]) ?_
 unfold bE
 dsimp only
 simp -implicitDefEqProofs -dsimp only[ah,ai hb,hd2,ef,cV,i1,hl,aL,cG,bL,bT,cm,cr,cq,ck,ct,cu,w1,vcS,↓vcQ,simprocAttr]
 have t1:=t.mono (ax.app T [some (Ob.box [.int .i64 ka,.int .i32 r,.int .u8 88,.int .u8 pv,.sl sz (af .i64 ps) sk,d2])] [])
 have kk:=k0.dU [some (Ob.box [.int .i64 ka,.int .i32 r,.int .u8 88,.int .u8 pv,.sl sz (af .i64 ps) sk,d2])]
 refine xu t1.cells ok.g ok.y fun T' p' hp hc' k=>?_
 have hb2:=k.at t1.box (by simp)
 unfold aN at hb2
 simp -implicitDefEqProofs -dsimp only[ah,ai hb2,List.set_set,vcS,↓vcQ,simprocAttr]
 have ll:T.length<=T'.length:=by have:=k.1;simp at this;omega
 exact ⟨by simpa using ll,hK _ (by simpa using ll) (aB.BS (s2:={ s with wrap:=false}) pa kk t1 k hp hc' (jL ok.g ok.y) rfl rfl rfl)⟩
theorem QS (hs:sz=1\/ps=[])(hl:ps.length<=1000000)(hps:∀k∈ps,0<=k/\k<=65535)(hd2:DV.one d2=true)(ok:aR s)(h:aB T0 T o s p)
  (hK:∀T',T.length<=T'.length->aB T0 T' o (eS s 114 ps) p->K (.tup []) T'):aj PG 65 [.ptr o 0 0,acD ka r 114 pv (.sl sz (af .i64 ps) sk) d2] T K:=by
 unfold acD
 obtain ⟨k0,q,tq,od,m,pr,d1,e2,e3,pa,t⟩:=id h
 have hb:=t.box
 unfold aN at hb
 have hr:=ok.g.r
 have hc:=ok.g.c
 have hy:=ok.y
 have hx:=ok.x
 have p0:=bJ hps 0
 have p1:=bJ hps 1
 have i1:aD .i64 (.sl sz (af .i64 ps) sk):=aQ hs (fy hl hps)
 have w1:IntKind.i64.wrap (max (bF ps 0) 1-1)=max (bF ps 0) 1-1:=aO (by omega) (by omega)
 refine aj.aE dZ cj (by simp[bE]) ?_
 unfold bE
 dsimp only
 simp -implicitDefEqProofs -dsimp only[ah,ai hb,hd2,ef,cV,i1,hl,aL,cG,bL,bT,cm,cr,cq,ck,ct,cu,w1,vcS,↓vcQ,simprocAttr]
 have h1:aB T0 (T++ [some (Ob.box [.int .i64 ka,.int .i32 r,.int .u8 114,.int .u8 pv,.sl sz (af .i64 ps) sk,d2])]) o s p:=h.keep (ax.app _ _ _)
 refine M7 ok (by omega) p1.1 h1 fun T' l t'=>?_
 simp -implicitDefEqProofs -dsimp only[ah,vcS,↓vcQ,simprocAttr]
 have ll:T.length<=T'.length:=by simp at l;omega
 exact ⟨ll,hK _ ll (by rw[Zj];exact t')⟩
theorem QU (hs:sz=1\/ps=[])(hl:ps.length<=1000000)(hps:∀k∈ps,0<=k/\k<=65535)(hd2:DV.one d2=true)(ok:aR s)(h:aB T0 T o s p)
  (hK:∀T',T.length<=T'.length->aB T0 T' o (eS s 103 ps) p->K (.tup []) T'):aj PG 65 [.ptr o 0 0,acD ka r 103 pv (.sl sz (af .i64 ps) sk) d2] T K:=by
 unfold acD
 obtain ⟨k0,q,tq,od,m,pr,d1,e2,e3,pa,t⟩:=id h
 have hb:=t.box
 unfold aN at hb
 have hr:=ok.g.r
 have hc:=ok.g.c
 have hy:=ok.y
 have hx:=ok.x
 have p0:=bJ hps 0
 have p1:=bJ hps 1
 have i1:aD .i64 (.sl sz (af .i64 ps) sk):=aQ hs (fy hl hps)
 refine aj.aE dZ cj (by simp[bE]) ?_
 unfold bE
 dsimp only
 simp -implicitDefEqProofs -dsimp only[ah,ai hb,hd2,ef,cV,i1,hl,aL,cG,bL,bT,cm,cr,cq,ck,ct,cu,vcS,↓vcQ,simprocAttr]
 have h1:aB T0 (T++ [some (Ob.box [.int .i64 ka,.int .i32 r,.int .u8 103,.int .u8 pv,.sl sz (af .i64 ps) sk,d2])]) o s p:=h.keep (ax.app _ _ _)
 refine QX ok h1 fun T' l t'=>?_
 simp -implicitDefEqProofs -dsimp only[ah,vcS,↓vcQ,simprocAttr]
 have ll:T.length<=T'.length:=by simp at l;omega
 exact ⟨ll,hK _ ll (by rw[O4 ok.aP];exact t')⟩
theorem QT (hs:sz=1\/ps=[])(hl:ps.length<=1000000)(hps:∀k∈ps,0<=k/\k<=65535)(hd2:DV.one d2=true)(ok:aR s)(h:aB T0 T o s p)
  (hK:∀T',T.length<=T'.length->aB T0 T' o (eS s 109 ps) p->K (.tup []) T'):aj PG 65 [.ptr o 0 0,acD ka r 109 pv (.sl sz (af .i64 ps) sk) d2] T K:=by
 unfold acD
 obtain ⟨k0,q,tq,od,m,pr,d1,e2,e3,pa,t⟩:=id h
 have hb:=t.box
 unfold aN at hb
 have hr:=ok.g.r
 have hc:=ok.g.c
 have hy:=ok.y
 have hx:=ok.x
 have p0:=bJ hps 0
 have p1:=bJ hps 1
 have i1:aD .i64 (.sl sz (af .i64 ps) sk):=aQ hs (fy hl hps)
 refine aj.aE dZ cj (by simp[bE]) ?_
 unfold bE
 dsimp only
 simp -implicitDefEqProofs -dsimp only[ah,ai hb,hd2,ef,cV,i1,hl,aL,cG,bL,bT,cm,cr,cq,ck,ct,cu,vcS,↓vcQ,simprocAttr]
 have h1:aB T0 (T++ [some (Ob.box [.int .i64 ka,.int .i32 r,.int .u8 109,.int .u8 pv,.sl sz (af .i64 ps) sk,d2])]) o s p:=h.keep (ax.app _ _ _)
 refine Q4 hs hps hl ok h1 fun T' l t'=>?_
 simp -implicitDefEqProofs -dsimp only[ah,vcS,↓vcQ,simprocAttr]
 have ll:T.length<=T'.length:=by simp at l;omega
 exact ⟨ll,hK _ ll t'⟩
theorem WT {b:Int}(hs:sz=1\/ps=[])(hl:ps.length<=1000000)(hps:∀k∈ps,0<=k/\k<=65535)(hd2:DV.one d2=true)(h:aB T0 T o s p)
  (hn:¬b=65/\¬b=66/\¬b=67/\¬b=68/\¬b=71/\¬b=96/\¬b=100/\¬b=72/\¬b=102/\¬b=74/\¬b=75/\¬b=76/\¬b=77/\¬b=83/\¬b=84/\¬b=64/\¬b=80/\¬b=88/\¬b=114/\¬b=103/\¬b=109) (hK:∀T',T.length<=T'.length->aB T0 T' o s p->K (.tup []) T'):aj PG 65 [.ptr o 0 0,acD ka r b pv (.sl sz (af .i64 ps) sk) d2] T K:=by
 unfold acD
 obtain ⟨n65,n66,n67,n68,n71,n96,Yn,n72,abe,n74,n75,n76,n77,n83,n84,n64,n80,n88,Yk,Ym,Yl⟩:=hn
 have i1:aD .i64 (.sl sz (af .i64 ps) sk):=aQ hs (fy hl hps)
 refine aj.aE dZ cj (by simp[bE]) ?_
 unfold bE
 dsimp only
 simp -implicitDefEqProofs -dsimp only[ah,hd2,ef,cV,i1,hl,aL,eq_false n65,eq_false n66,eq_false n67,eq_false n68,eq_false n71,eq_false n96,eq_false Yn,eq_false n72,eq_false abe,eq_false n74,eq_false n75,eq_false n76,eq_false n77,eq_false n83,eq_false n84,eq_false n64,eq_false n80,eq_false n88,eq_false Yk,eq_false Ym,eq_false Yl,vcS,↓vcQ,simprocAttr]
 exact hK _ (by simp) (h.keep (ax.app _ _ _))
theorem aaF {b:Int}(hs:sz=1\/ps=[])(hl:ps.length<=1000000)(hps:∀k∈ps,0<=k/\k<=65535)(hd2:DV.one d2=true)(ok:aR s)(h:aB T0 T o s p)
  (hK:∀T',T.length<=T'.length->aB T0 T' o (eS s b ps) p->K (.tup []) T'):aj PG 65 [.ptr o 0 0,acD ka r b pv (.sl sz (af .i64 ps) sk) d2] T K:=by
 rcases Decidable.em (b=65) with e | n65
 ·subst e;exact W8 hs hl hps hd2 ok h hK
 rcases Decidable.em (b=66) with e | n66
 ·subst e;exact W7 hs hl hps hd2 ok h hK
 rcases Decidable.em (b=67) with e | n67
 ·subst e;exact W6 hs hl hps hd2 ok h hK
 rcases Decidable.em (b=68) with e | n68
 ·subst e;exact W5 hs hl hps hd2 ok h hK
 rcases Decidable.em (b=71) with e | n71
 ·subst e;exact W4 hs hl hps hd2 ok h hK
 rcases Decidable.em (b=96) with e | n96
 ·subst e;exact WU hs hl hps hd2 ok h hK
 rcases Decidable.em (b=100) with e | Yn
 ·subst e;exact QW hs hl hps hd2 ok h hK
 rcases Decidable.em (b=72) with e | n72
 ·subst e;exact W3 hs hl hps hd2 ok h hK
 rcases Decidable.em (b=102) with e | abe
 ·subst e;exact QV hs hl hps hd2 ok h hK
 rcases Decidable.em (b=74) with e | n74
 ·subst e;exact W2 hs hl hps hd2 ok h hK
 rcases Decidable.em (b=75) with e | n75
 ·subst e;exact W1 hs hl hps hd2 ok h hK
 rcases Decidable.em (b=76) with e | n76
 ·subst e;exact W0 hs hl hps hd2 ok h hK
 rcases Decidable.em (b=77) with e | n77
 ·subst e;exact WZ hs hl hps hd2 ok h hK
 rcases Decidable.em (b=83) with e | n83
 ·subst e;exact WX hs hl hps hd2 ok h hK
 rcases Decidable.em (b=84) with e | n84
 ·subst e;exact WW hs hl hps hd2 ok h hK
 rcases Decidable.em (b=64) with e | n64
 ·subst e;exact W9 hs hl hps hd2 ok h hK
 rcases Decidable.em (b=80) with e | n80
 ·subst e;exact WY hs hl hps hd2 ok h hK
 rcases Decidable.em (b=88) with e | n88
 ·subst e;exact WV hs hl hps hd2 ok h hK
 rcases Decidable.em (b=114) with e | Yk
 ·subst e;exact QS hs hl hps hd2 ok h hK
 rcases Decidable.em (b=103) with e | Ym
 ·subst e;exact QU hs hl hps hd2 ok h hK
 rcases Decidable.em (b=109) with e | Yl
 ·subst e;exact QT hs hl hps hd2 ok h hK
 have e:eS s b ps=s:=by
  unfold eS
  dsimp only
  rw[if_neg n65,if_neg n66,if_neg n67,if_neg n68,if_neg (by omega),if_neg Yn,if_neg (by omega),if_neg n74,if_neg n75,if_neg n76,if_neg n77,if_neg n83,if_neg n84,if_neg n64,if_neg n80,if_neg n88,if_neg Yk,if_neg Ym,if_neg Yl]
 rw[e] at hK
 exact WT hs hl hps hd2 h ⟨n65,n66,n67,n68,n71,n96,Yn,n72,abe,n74,n75,n76,n77,n83,n84,n64,n80,n88,Yk,Ym,Yl⟩ hK
end Go.Proofs.YtjmnbpilnneonaaGreatDoor
