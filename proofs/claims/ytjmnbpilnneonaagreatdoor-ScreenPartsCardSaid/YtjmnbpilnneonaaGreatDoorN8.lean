/- Texts H12 in one. -/
import Derived.Test.YtjmnbpilnneonaaGreatDoorN7
set_option linter.unusedVariables false
set_option linter.unusedSimpArgs false
set_option maxRecDepth 10000
namespace Go.Proofs.YtjmnbpilnneonaaGreatDoor
open Go.RowKit
noncomputable def bD:RFn:=⟨2,244,(SR [OP 3 (.box 6 (.t 1))] [0,3] (.seq (.cK (.take (LT 7 6 3) [] (.take (LT 10 6 3) [] (.take (LT 13 6 3) [] (.op (OP 8 (.call 99 [.t 7,.c (.int .i64 0)])) (.take (OP 9 (.mm true (.t 8) (.c (.int .i64 1)))) [] (.op (OP 11 (.call 99 [.t 10,.c (.int .i64 1)])) (.take (OP 12 (.mm true (.t 11) (.c (.int .i64 1)))) [] (.mid (OP 14 (.call 99 [.t 13,.c (.int .i64 0)])) (.take (MV 4 9) [] (.take (MV 5 12) [] (.take (MV 6 14) [] .done))))))))))) 0 [0,3,4,5,6]) (.seq (SR [FA 15 2 3,LD 16 15] [0,3,4,5,6,16] (.blk 0 (SR [OP 18 (.bin .eql (.t 16) (.c (.int .u8 65))),MV 17 18] [0,3,4,5,6,16,17] (.cond (.t 17) (.cK (.take (MV 19 0) [] (.take (MV 20 0) [] (.take (OP 21 (.aC (.t 20))) [] (.take (FA 22 0 21) [] (.take (FA 23 3 22) [] (.take (LD 24 23) [] (.take (MV 25 4) [] (.take (BT 26 .sub 24 25) [] (.take (MV 27 0) [] (.take (OP 28 (.aC (.t 27))) [] (.take (FA 29 0 28) [] (.take (FA 30 4 29) [] (.take (LD 31 30) [] (.mid (OP 32 (.call 100 [.t 19,.t 26,.t 31])) .done)))))))))))))) 0 [0]) (SR [OP 34 (.bin .eql (.t 16) (.c (.int .u8 66))),MV 33 34] [0,3,4,5,6,16,33] (.cond (.t 33) (.cK (.take (MV 35 0) [] (.take (MV 36 0) [] (.take (OP 37 (.aC (.t 36))) [] (.take (FA 38 0 37) [] (.take (FA 39 3 38) [] (.take (LD 40 39) [] (.take (MV 41 4) [] (.take (BT 42 .add 40 41) [] (.take (MV 43 0) [] (.take (OP 44 (.aC (.t 43))) [] (.take (FA 45 0 44) [] (.take (FA 46 4 45) [] (.take (LD 47 46) [] (.mid (OP 48 (.call 100 [.t 35,.t 42,.t 47])) .done)))))))))))))) 0 [0]) (SR [OP 50 (.bin .eql (.t 16) (.c (.int .u8 67))),MV 49 50] [0,3,4,5,6,16,49] (.cond (.t 49) (.cK (.take (MV 51 0) [] (.take (MV 52 0) [] (.take (OP 53 (.aC (.t 52))) [] (.take (FA 54 0 53) [] (.take (FA 55 3 54) [] (.take (LD 56 55) [] (.take (MV 57 0) [] (.take (OP 58 (.aC (.t 57))) [] (.take (FA 59 0 58) [] (.take (FA 60 4 59) [] (.take (LD 61 60) [] (.take (MV 62 4) [] (.take (BT 63 .add 61 62) [] (.mid (OP 64 (.call 100 [.t 51,.t 56,.t 63])) .done)))))))))))))) 0 [0]) (SR [OP 66 (.bin .eql (.t 16) (.c (.int .u8 68))),MV 65 66] [0,3,4,5,6,16,65] (.cond (.t 65) (.cK (.take (MV 67 0) [] (.take (MV 68 0) [] (.take (OP 69 (.aC (.t 68))) [] (.take (FA 70 0 69) [] (.take (FA 71 3 70) [] (.take (LD 72 71) [] (.take (MV 73 0) [] (.take (OP 74 (.aC (.t 73))) [] (.take (FA 75 0 74) [] (.take (FA 76 4 75) [] (.take (LD 77 76) [] (.take (MV 78 4) [] (.take (BT 79 .sub 77 78) [] (.mid (OP 80 (.call 100 [.t 67,.t 72,.t 79])) .done)))))))))))))) 0 [0]) (.seq (SR [OP 82 (.bin .eql (.t 16) (.c (.int .u8 71))),MV 81 82] [0,3,4,5,6,16,81] (.cond (.t 81) .skip (.reg [OP 83 (.bin .eql (.t 16) (.c (.int .u8 96))),MV 81 83] 0 [0,3,4,5,6,16,81]))) (.cond (.t 81) (.reg [MV 84 0,MV 85 0,OP 86 (.aC (.t 85)),FA 87 0 86,FA 88 3 87,LD 89 88,MV 90 4,BI 91 .sub 90 1,OP 92 (.call 100 [.t 84,.t 89,.t 91])] 0 [0]) (SR [OP 94 (.bin .eql (.t 16) (.c (.int .u8 100))),MV 93 94] [0,3,4,5,6,16,93] (.cond (.t 93) (.reg [MV 95 0,MV 96 4,BI 97 .sub 96 1,MV 98 0,OP 99 (.aC (.t 98)),FA 100 0 99,FA 101 4 100,LD 102 101,OP 103 (.call 100 [.t 95,.t 97,.t 102])] 0 [0]) (.seq (SR [OP 105 (.bin .eql (.t 16) (.c (.int .u8 72))),MV 104 105] [0,3,4,5,6,16,104] (.cond (.t 104) .skip (.reg [OP 106 (.bin .eql (.t 16) (.c (.int .u8 102))),MV 104 106] 0 [0,3,4,5,6,16,104]))) (.cond (.t 104) (.reg [MV 107 0,MV 108 4,BI 109 .sub 108 1,MV 110 5,BI 111 .sub 110 1,OP 112 (.call 100 [.t 107,.t 109,.t 111])] 0 [0]) (.seq (SR [OP 114 (.bin .eql (.t 16) (.c (.int .u8 74))),MV 113 114] [0,3,4,6,16,113] (.cond (.t 113) .skip (.reg [OP 115 (.bin .eql (.t 16) (.c (.int .u8 75))),MV 113 115] 0 [0,3,4,6,16,113]))) (.cond (.t 113) (.reg [MV 116 0,FA 117 2 3,LD 118 117,MV 119 6,OP 120 (.call 101 [.t 116,.t 118,.t 119])] 0 [0]) (.seq (SR [OP 122 (.bin .eql (.t 16) (.c (.int .u8 76))),MV 121 122] [0,3,4,6,16,121] (.cond (.t 121) .skip (SR [OP 123 (.bin .eql (.t 16) (.c (.int .u8 77))),MV 121 123] [0,3,4,6,16,121] (.cond (.t 121) .skip (SR [OP 124 (.bin .eql (.t 16) (.c (.int .u8 83))),MV 121 124] [0,3,4,6,16,121] (.cond (.t 121) .skip (.reg [OP 125 (.bin .eql (.t 16) (.c (.int .u8 84))),MV 121 125] 0 [0,3,4,6,16,121]))))))) (.cond (.t 121) (.reg [MV 126 0,FA 127 2 3,LD 128 127,MV 129 4,OP 130 (.call 102 [.t 126,.t 128,.t 129])] 0 [0]) (SR [OP 132 (.bin .eql (.t 16) (.c (.int .u8 64))),MV 131 132] [0,3,4,6,16,131] (.cond (.t 131) (.cK (.take (MV 133 0) [] (.take (MV 134 0) [] (.take (OP 135 (.aC (.t 134))) [] (.take (FA 136 0 135) [] (.take (FA 137 2 136) [] (.take (LD 138 137) [] (.take (MV 139 0) [] (.take (OP 140 (.aC (.t 139))) [] (.take (FA 141 0 140) [] (.take (FA 142 1 141) [] (.take (LD 143 142) [] (.take (MV 144 0) [] (.take (OP 145 (.aC (.t 144))) [] (.take (FA 146 0 145) [] (.take (FA 147 3 146) [] (.take (LD 148 147) [] (.take (MV 149 0) [] (.take (OP 150 (.aC (.t 149))) [] (.take (FA 151 0 150) [] (.take (FA 152 4 151) [] (.take (LD 153 152) [] (.take (MV 154 4) [] (.mid (OP 155 (.call 103 [.t 138,.t 143,.t 148,.t 153,.t 154])) (.take (OP 156 (.aC (.t 133))) [] (.take (FA 157 0 156) [] (.take (FA 158 2 157) [] (.op (SA 1 158 155) .done))))))))))))))))))))))))))) 0 [0]) (SR [OP 160 (.bin .eql (.t 16) (.c (.int .u8 80))),MV 159 160] [0,3,4,6,16,159] (.cond (.t 159) (.cK (.take (MV 161 0) [] (.take (MV 162 0) [] (.take (OP 163 (.aC (.t 162))) [] (.take (FA 164 0 163) [] (.take (FA 165 2 164) [] (.take (LD 166 165) [] (.take (MV 167 0) [] (.take (OP 168 (.aC (.t 167))) [] (.take (FA 169 0 168) [] (.take (FA 170 1 169) [] (.take (LD 171 170) [] (.take (MV 172 0) [] (.take (OP 173 (.aC (.t 172))) [] (.take (FA 174 0 173) [] (.take (FA 175 3 174) [] (.take (LD 176 175) [] (.take (MV 177 0) [] (.take (OP 178 (.aC (.t 177))) [] (.take (FA 179 0 178) [] (.take (FA 180 4 179) [] (.take (LD 181 180) [] (.take (MV 182 4) [] (.mid (OP 183 (.call 104 [.t 166,.t 171,.t 176,.t 181,.t 182])) (.take (OP 184 (.aC (.t 161))) [] (.take (FA 185 0 184) [] (.take (FA 186 2 185) [] (.op (SA 1 186 183) .done))))))))))))))))))))))))))) 0 [0]) (SR [OP 188 (.bin .eql (.t 16) (.c (.int .u8 88))),MV 187 188] [0,3,4,6,16,187] (.cond (.t 187) (.cK (.take (MV 189 0) [] (.take (MV 190 0) [] (.take (OP 191 (.aC (.t 190))) [] (.take (FA 192 0 191) [] (.take (FA 193 2 192) [] (.take (LD 194 193) [] (.take (MV 195 0) [] (.take (OP 196 (.aC (.t 195))) [] (.take (FA 197 0 196) [] (.take (FA 198 1 197) [] (.take (LD 199 198) [] (.take (MV 200 0) [] (.take (OP 201 (.aC (.t 200))) [] (.take (FA 202 0 201) [] (.take (FA 203 3 202) [] (.take (LD 204 203) [] (.take (MV 205 0) [] (.take (OP 206 (.aC (.t 205))) [] (.take (FA 207 0 206) [] (.take (FA 208 4 207) [] (.take (LD 209 208) [] (.take (MV 210 0) [] (.take (OP 211 (.aC (.t 210))) [] (.take (FA 212 0 211) [] (.take (FA 213 4 212) [] (.take (LD 214 213) [] (.take (MV 215 4) [] (.take (BT 216 .add 214 215) [] (.mid (OP 217 (.call 105 [.t 194,.t 199,.t 204,.t 209,.t 216])) (.take (OP 218 (.aC (.t 189))) [] (.take (FA 219 0 218) [] (.take (FA 220 2 219) [] (.op (SA 1 220 217) .done))))))))))))))))))))))))))))))))) 0 [0]) (SR [OP 222 (.bin .eql (.t 16) (.c (.int .u8 114))),MV 221 222] [0,3,4,6,16,221] (.cond (.t 221) (SR [MV 223 0,MV 224 4,BI 225 .sub 224 1,LT 226 6 3,OP 227 (.call 99 [.t 226,.c (.int .i64 1)]),OP 228 (.call 106 [.t 223,.t 225,.t 227])] [] .ret) (SR [OP 230 (.bin .eql (.t 16) (.c (.int .u8 103))),MV 229 230] [0,3,6,16,229] (.cond (.t 229) (SR [MV 231 0,MV 232 6,OP 233 (.call 107 [.t 231,.t 232])] [] .ret) (SR [OP 235 (.bin .eql (.t 16) (.c (.int .u8 109))),MV 234 235] [0,3,234] (.cond (.t 234) (SR [MV 236 0,FA 237 4 3,LD 238 237,OP 239 (.call 108 [.t 236,.t 238])] [] .ret) .ret)))))))))))))))))))))))))))))))) (.reg [MV 240 0,OP 241 (.aC (.t 240)),FA 242 0 241,FA 243 5 242,NP (.store 1 (.t 243) (.c (.bool false)))] 0 [])))),[]⟩
theorem bV:aK PG.P [⟨0,0,[0,3],[]⟩,⟨1,0,[0,3,4,5,6],[]⟩,⟨2,0,[0,3,4,5,6,16],[]⟩,⟨3,0,[0,3,4,5,6,16,17],[]⟩,⟨4,0,[0],[]⟩,⟨5,0,[0,3,4,5,6,16,33],[]⟩,⟨6,0,[0],[]⟩,⟨7,0,[0,3,4,5,6,16,49],[]⟩,⟨8,0,[0],[]⟩,⟨9,0,[0,3,4,5,6,16,65],[]⟩,⟨10,0,[0],[]⟩,⟨11,0,[0,3,4,5,6,16,81],[]⟩,⟨12,0,[0,3,4,5,6,16,81],[]⟩,⟨13,0,[0],[]⟩,⟨14,0,[0,3,4,5,6,16,93],[]⟩,⟨15,0,[0],[]⟩,⟨16,0,[0,3,4,5,6,16,104],[]⟩,⟨17,0,[0,3,4,5,6,16,104],[]⟩,⟨18,0,[0],[]⟩,⟨19,0,[0,3,4,6,16,113],[]⟩,⟨20,0,[0,3,4,6,16,113],[]⟩,⟨21,0,[0],[]⟩,⟨22,0,[0,3,4,6,16,121],[]⟩,⟨23,0,[0,3,4,6,16,121],[]⟩,⟨24,0,[0,3,4,6,16,121],[]⟩,⟨25,0,[0,3,4,6,16,121],[]⟩,⟨26,0,[0],[]⟩,⟨27,0,[0,3,4,6,16,131],[]⟩,⟨28,0,[0],[]⟩,⟨29,0,[0,3,4,6,16,159],[]⟩,⟨30,0,[0],[]⟩,⟨31,0,[0,3,4,6,16,187],[]⟩,⟨32,0,[0],[]⟩,⟨33,0,[0,3,4,6,16,221],[]⟩,⟨34,0,[],[]⟩,⟨35,0,[0,3,6,16,229],[]⟩,⟨36,0,[],[]⟩,⟨37,0,[0,3,234],[]⟩,⟨38,0,[],[]⟩,⟨39,0,[],[]⟩] 65=some bD:=by kernel_rfl
theorem bF {ps:List Int}(h:∀k∈ps,0≤k∧k≤65535)(i:Nat):0≤bE ps i∧bE ps i≤65535:=by
 unfold bE
 rw [List.getD_eq_getElem?_getD]
 rcases hh:ps[i]? with _ | v
 ·simp
 ·exact h v (List.mem_of_getElem? hh)
theorem fh {l:List Int}(hl:l.length≤1000000)(h:∀n∈l,0≤n∧n≤65535):inK .i64 l:=⟨by omega,fun n hn=>by have:=h n hn;have:=Zh;omega⟩
theorem cB (args:List DV):tab CI 100 args=none:=au _
theorem bH (args:List DV):tab CI 101 args=none:=au _
theorem bS (args:List DV):tab CI 102 args=none:=au _
theorem cg (args:List DV):tab CI 103 args=none:=au _
theorem ck (args:List DV):tab CI 104 args=none:=au _
theorem cj (args:List DV):tab CI 105 args=none:=au _
theorem bZ (args:List DV):tab CI 106 args=none:=au _
theorem cm (args:List DV):tab CI 107 args=none:=au _
theorem cq (args:List DV):tab CI 108 args=none:=au _
theorem XS {T0 T:aj}{o:Nat}{s:Sc}{p:Pa}{sz:Nat}{sk:SK}{ps:List Int}{ka r pv:Int}{d2:DV}{K:DV→aj→Prop}(hs:sz=1∨ps=[])(hl:ps.length≤1000000)(hps:∀k∈ps,0≤k∧k≤65535)(hd2:DV.one d2=true)(ok:aR s)(h:aB T0 T o s p)
  (hK:∀T',T.length≤T'.length→aB T0 T' o (eJ s 65 ps) p→K (.tup []) T'):aq PG 65 [.ptr o 0 0,acD ka r 65 pv (.sl sz (af .i64 ps) sk) d2] T K:=by
 unfold acD
 obtain ⟨k0,q,tq,od,m,pr,d1,e2,e3,pa,t⟩:=id h
 have hb:=t.box
 unfold aO at hb
 have hr:=ok.g.r
 have hc:=ok.g.c
 have hy:=ok.y
 have hx:=ok.x
 have p0:=bF hps 0
 have p1:=bF hps 1
 have i1:aD .i64 (.sl sz (af .i64 ps) sk):=aQ hs (fh hl hps)
 have w1:IntKind.i64.wrap ((s.y:Int)-max (bE ps 0) 1)=(s.y:Int)-max (bE ps 0) 1:=aP (by omega) (by omega)
 refine aq.aE dO bV (by simp [bD]) ?_
 unfold bD
 dsimp only
 simp -implicitDefEqProofs -dsimp only [ah,ai hb,hd2,dP,cN,i1,hl,aM,cB,bH,bS,cg,ck,cj,bZ,cm,cq,w1,vcS,↓an,↓ak,simprocAttr]
 have h1:aB T0 (T++ [some (Ob.box [.int .i64 ka,.int .i32 r,.int .u8 65,.int .u8 pv,.sl sz (af .i64 ps) sk,d2])]) o s p:=h.keep (aA.app _ _ _)
 refine tV hr hc h1 fun T' l t'=>?_
 obtain ⟨k1,q',tq',od',m',pr',f1,f2,f3,pa',t2⟩:=t'
 have hb2:=t2.box
 unfold aO at hb2
 simp -implicitDefEqProofs -dsimp only [ah,ai hb2,vcS,↓an,↓ak,simprocAttr]
 have ll:T.length≤T'.length:=by simp at l;omega
 exact ⟨by simpa using ll,hK _ (by simpa using ll) (aB.mk (s:=eJ s 65 ps) (k1.put t2.no _) pa' (t2.put rfl rfl rfl rfl rfl))⟩
theorem XR {T0 T:aj}{o:Nat}{s:Sc}{p:Pa}{sz:Nat}{sk:SK}{ps:List Int}{ka r pv:Int}{d2:DV}{K:DV→aj→Prop}(hs:sz=1∨ps=[])(hl:ps.length≤1000000)(hps:∀k∈ps,0≤k∧k≤65535)(hd2:DV.one d2=true)(ok:aR s)(h:aB T0 T o s p)
  (hK:∀T',T.length≤T'.length→aB T0 T' o (eJ s 66 ps) p→K (.tup []) T'):aq PG 65 [.ptr o 0 0,acD ka r 66 pv (.sl sz (af .i64 ps) sk) d2] T K:=by
 unfold acD
 obtain ⟨k0,q,tq,od,m,pr,d1,e2,e3,pa,t⟩:=id h
 have hb:=t.box
 unfold aO at hb
 have hr:=ok.g.r
 have hc:=ok.g.c
 have hy:=ok.y
 have hx:=ok.x
 have p0:=bF hps 0
 have p1:=bF hps 1
 have i1:aD .i64 (.sl sz (af .i64 ps) sk):=aQ hs (fh hl hps)
 have w1:IntKind.i64.wrap ((s.y:Int)+max (bE ps 0) 1)=(s.y:Int)+max (bE ps 0) 1:=aP (by omega) (by omega)
 refine aq.aE dO bV (by simp [bD]) ?_
 unfold bD
 dsimp only
 simp -implicitDefEqProofs -dsimp only [ah,ai hb,hd2,dP,cN,i1,hl,aM,cB,bH,bS,cg,ck,cj,bZ,cm,cq,w1,vcS,↓an,↓ak,simprocAttr]
 have h1:aB T0 (T++ [some (Ob.box [.int .i64 ka,.int .i32 r,.int .u8 66,.int .u8 pv,.sl sz (af .i64 ps) sk,d2])]) o s p:=h.keep (aA.app _ _ _)
 refine tV hr hc h1 fun T' l t'=>?_
 obtain ⟨k1,q',tq',od',m',pr',f1,f2,f3,pa',t2⟩:=t'
 have hb2:=t2.box
 unfold aO at hb2
 simp -implicitDefEqProofs -dsimp only [ah,ai hb2,vcS,↓an,↓ak,simprocAttr]
 have ll:T.length≤T'.length:=by simp at l;omega
 exact ⟨by simpa using ll,hK _ (by simpa using ll) (aB.mk (s:=eJ s 66 ps) (k1.put t2.no _) pa' (t2.put rfl rfl rfl rfl rfl))⟩
theorem XQ {T0 T:aj}{o:Nat}{s:Sc}{p:Pa}{sz:Nat}{sk:SK}{ps:List Int}{ka r pv:Int}{d2:DV}{K:DV→aj→Prop}(hs:sz=1∨ps=[])(hl:ps.length≤1000000)(hps:∀k∈ps,0≤k∧k≤65535)(hd2:DV.one d2=true)(ok:aR s)(h:aB T0 T o s p)
  (hK:∀T',T.length≤T'.length→aB T0 T' o (eJ s 67 ps) p→K (.tup []) T'):aq PG 65 [.ptr o 0 0,acD ka r 67 pv (.sl sz (af .i64 ps) sk) d2] T K:=by
 unfold acD
 obtain ⟨k0,q,tq,od,m,pr,d1,e2,e3,pa,t⟩:=id h
 have hb:=t.box
 unfold aO at hb
 have hr:=ok.g.r
 have hc:=ok.g.c
 have hy:=ok.y
 have hx:=ok.x
 have p0:=bF hps 0
 have p1:=bF hps 1
 have i1:aD .i64 (.sl sz (af .i64 ps) sk):=aQ hs (fh hl hps)
 have w2:IntKind.i64.wrap ((s.x:Int)+max (bE ps 0) 1)=(s.x:Int)+max (bE ps 0) 1:=aP (by omega) (by omega)
 refine aq.aE dO bV (by simp [bD]) ?_
 unfold bD
 dsimp only
 simp -implicitDefEqProofs -dsimp only [ah,ai hb,hd2,dP,cN,i1,hl,aM,cB,bH,bS,cg,ck,cj,bZ,cm,cq,w2,vcS,↓an,↓ak,simprocAttr]
 have h1:aB T0 (T++ [some (Ob.box [.int .i64 ka,.int .i32 r,.int .u8 67,.int .u8 pv,.sl sz (af .i64 ps) sk,d2])]) o s p:=h.keep (aA.app _ _ _)
 refine tV hr hc h1 fun T' l t'=>?_
 obtain ⟨k1,q',tq',od',m',pr',f1,f2,f3,pa',t2⟩:=t'
 have hb2:=t2.box
 unfold aO at hb2
 simp -implicitDefEqProofs -dsimp only [ah,ai hb2,vcS,↓an,↓ak,simprocAttr]
 have ll:T.length≤T'.length:=by simp at l;omega
 exact ⟨by simpa using ll,hK _ (by simpa using ll) (aB.mk (s:=eJ s 67 ps) (k1.put t2.no _) pa' (t2.put rfl rfl rfl rfl rfl))⟩
theorem XP {T0 T:aj}{o:Nat}{s:Sc}{p:Pa}{sz:Nat}{sk:SK}{ps:List Int}{ka r pv:Int}{d2:DV}{K:DV→aj→Prop}(hs:sz=1∨ps=[])(hl:ps.length≤1000000)(hps:∀k∈ps,0≤k∧k≤65535)(hd2:DV.one d2=true)(ok:aR s)(h:aB T0 T o s p)
  (hK:∀T',T.length≤T'.length→aB T0 T' o (eJ s 68 ps) p→K (.tup []) T'):aq PG 65 [.ptr o 0 0,acD ka r 68 pv (.sl sz (af .i64 ps) sk) d2] T K:=by
 unfold acD
 obtain ⟨k0,q,tq,od,m,pr,d1,e2,e3,pa,t⟩:=id h
 have hb:=t.box
 unfold aO at hb
 have hr:=ok.g.r
 have hc:=ok.g.c
 have hy:=ok.y
 have hx:=ok.x
 have p0:=bF hps 0
 have p1:=bF hps 1
 have i1:aD .i64 (.sl sz (af .i64 ps) sk):=aQ hs (fh hl hps)
 have w2:IntKind.i64.wrap ((s.x:Int)-max (bE ps 0) 1)=(s.x:Int)-max (bE ps 0) 1:=aP (by omega) (by omega)
 refine aq.aE dO bV (by simp [bD]) ?_
 unfold bD
 dsimp only
 simp -implicitDefEqProofs -dsimp only [ah,ai hb,hd2,dP,cN,i1,hl,aM,cB,bH,bS,cg,ck,cj,bZ,cm,cq,w2,vcS,↓an,↓ak,simprocAttr]
 have h1:aB T0 (T++ [some (Ob.box [.int .i64 ka,.int .i32 r,.int .u8 68,.int .u8 pv,.sl sz (af .i64 ps) sk,d2])]) o s p:=h.keep (aA.app _ _ _)
 refine tV hr hc h1 fun T' l t'=>?_
 obtain ⟨k1,q',tq',od',m',pr',f1,f2,f3,pa',t2⟩:=t'
 have hb2:=t2.box
 unfold aO at hb2
 simp -implicitDefEqProofs -dsimp only [ah,ai hb2,vcS,↓an,↓ak,simprocAttr]
 have ll:T.length≤T'.length:=by simp at l;omega
 exact ⟨by simpa using ll,hK _ (by simpa using ll) (aB.mk (s:=eJ s 68 ps) (k1.put t2.no _) pa' (t2.put rfl rfl rfl rfl rfl))⟩
theorem XO {T0 T:aj}{o:Nat}{s:Sc}{p:Pa}{sz:Nat}{sk:SK}{ps:List Int}{ka r pv:Int}{d2:DV}{K:DV→aj→Prop}(hs:sz=1∨ps=[])(hl:ps.length≤1000000)(hps:∀k∈ps,0≤k∧k≤65535)(hd2:DV.one d2=true)(ok:aR s)(h:aB T0 T o s p)
  (hK:∀T',T.length≤T'.length→aB T0 T' o (eJ s 71 ps) p→K (.tup []) T'):aq PG 65 [.ptr o 0 0,acD ka r 71 pv (.sl sz (af .i64 ps) sk) d2] T K:=by
 unfold acD
 obtain ⟨k0,q,tq,od,m,pr,d1,e2,e3,pa,t⟩:=id h
 have hb:=t.box
 unfold aO at hb
 have hr:=ok.g.r
 have hc:=ok.g.c
 have hy:=ok.y
 have hx:=ok.x
 have p0:=bF hps 0
 have p1:=bF hps 1
 have i1:aD .i64 (.sl sz (af .i64 ps) sk):=aQ hs (fh hl hps)
 have w2:IntKind.i64.wrap (max (bE ps 0) 1-1)=max (bE ps 0) 1-1:=aP (by omega) (by omega)
 refine aq.aE dO bV (by simp [bD]) ?_
 unfold bD
 dsimp only
 simp -implicitDefEqProofs -dsimp only [ah,ai hb,hd2,dP,cN,i1,hl,aM,cB,bH,bS,cg,ck,cj,bZ,cm,cq,w2,vcS,↓an,↓ak,simprocAttr]
 have h1:aB T0 (T++ [some (Ob.box [.int .i64 ka,.int .i32 r,.int .u8 71,.int .u8 pv,.sl sz (af .i64 ps) sk,d2])]) o s p:=h.keep (aA.app _ _ _)
 refine tV hr hc h1 fun T' l t'=>?_
 obtain ⟨k1,q',tq',od',m',pr',f1,f2,f3,pa',t2⟩:=t'
 have hb2:=t2.box
 unfold aO at hb2
 simp -implicitDefEqProofs -dsimp only [ah,ai hb2,vcS,↓an,↓ak,simprocAttr]
 have ll:T.length≤T'.length:=by simp at l;omega
 exact ⟨by simpa using ll,hK _ (by simpa using ll) (aB.mk (s:=eJ s 71 ps) (k1.put t2.no _) pa' (t2.put rfl rfl rfl rfl rfl))⟩
theorem XE {T0 T:aj}{o:Nat}{s:Sc}{p:Pa}{sz:Nat}{sk:SK}{ps:List Int}{ka r pv:Int}{d2:DV}{K:DV→aj→Prop}(hs:sz=1∨ps=[])(hl:ps.length≤1000000)(hps:∀k∈ps,0≤k∧k≤65535)(hd2:DV.one d2=true)(ok:aR s)(h:aB T0 T o s p)
  (hK:∀T',T.length≤T'.length→aB T0 T' o (eJ s 96 ps) p→K (.tup []) T'):aq PG 65 [.ptr o 0 0,acD ka r 96 pv (.sl sz (af .i64 ps) sk) d2] T K:=by
 unfold acD
 obtain ⟨k0,q,tq,od,m,pr,d1,e2,e3,pa,t⟩:=id h
 have hb:=t.box
 unfold aO at hb
 have hr:=ok.g.r
 have hc:=ok.g.c
 have hy:=ok.y
 have hx:=ok.x
 have p0:=bF hps 0
 have p1:=bF hps 1
 have i1:aD .i64 (.sl sz (af .i64 ps) sk):=aQ hs (fh hl hps)
 have w2:IntKind.i64.wrap (max (bE ps 0) 1-1)=max (bE ps 0) 1-1:=aP (by omega) (by omega)
 refine aq.aE dO bV (by simp [bD]) ?_
 unfold bD
 dsimp only
 simp -implicitDefEqProofs -dsimp only [ah,ai hb,hd2,dP,cN,i1,hl,aM,cB,bH,bS,cg,ck,cj,bZ,cm,cq,w2,vcS,↓an,↓ak,simprocAttr]
 have h1:aB T0 (T++ [some (Ob.box [.int .i64 ka,.int .i32 r,.int .u8 96,.int .u8 pv,.sl sz (af .i64 ps) sk,d2])]) o s p:=h.keep (aA.app _ _ _)
 refine tV hr hc h1 fun T' l t'=>?_
 obtain ⟨k1,q',tq',od',m',pr',f1,f2,f3,pa',t2⟩:=t'
 have hb2:=t2.box
 unfold aO at hb2
 simp -implicitDefEqProofs -dsimp only [ah,ai hb2,vcS,↓an,↓ak,simprocAttr]
 have ll:T.length≤T'.length:=by simp at l;omega
 exact ⟨by simpa using ll,hK _ (by simpa using ll) (aB.mk (s:=eJ s 96 ps) (k1.put t2.no _) pa' (t2.put rfl rfl rfl rfl rfl))⟩
theorem TW {T0 T:aj}{o:Nat}{s:Sc}{p:Pa}{sz:Nat}{sk:SK}{ps:List Int}{ka r pv:Int}{d2:DV}{K:DV→aj→Prop}(hs:sz=1∨ps=[])(hl:ps.length≤1000000)(hps:∀k∈ps,0≤k∧k≤65535)(hd2:DV.one d2=true)(ok:aR s)(h:aB T0 T o s p)
  (hK:∀T',T.length≤T'.length→aB T0 T' o (eJ s 100 ps) p→K (.tup []) T'):aq PG 65 [.ptr o 0 0,acD ka r 100 pv (.sl sz (af .i64 ps) sk) d2] T K:=by
 unfold acD
 obtain ⟨k0,q,tq,od,m,pr,d1,e2,e3,pa,t⟩:=id h
 have hb:=t.box
 unfold aO at hb
 have hr:=ok.g.r
 have hc:=ok.g.c
 have hy:=ok.y
 have hx:=ok.x
 have p0:=bF hps 0
 have p1:=bF hps 1
 have i1:aD .i64 (.sl sz (af .i64 ps) sk):=aQ hs (fh hl hps)
 have w1:IntKind.i64.wrap (max (bE ps 0) 1-1)=max (bE ps 0) 1-1:=aP (by omega) (by omega)
 refine aq.aE dO bV (by simp [bD]) ?_
 unfold bD
 dsimp only
 simp -implicitDefEqProofs -dsimp only [ah,ai hb,hd2,dP,cN,i1,hl,aM,cB,bH,bS,cg,ck,cj,bZ,cm,cq,w1,vcS,↓an,↓ak,simprocAttr]
 have h1:aB T0 (T++ [some (Ob.box [.int .i64 ka,.int .i32 r,.int .u8 100,.int .u8 pv,.sl sz (af .i64 ps) sk,d2])]) o s p:=h.keep (aA.app _ _ _)
 refine tV hr hc h1 fun T' l t'=>?_
 obtain ⟨k1,q',tq',od',m',pr',f1,f2,f3,pa',t2⟩:=t'
 have hb2:=t2.box
 unfold aO at hb2
 simp -implicitDefEqProofs -dsimp only [ah,ai hb2,vcS,↓an,↓ak,simprocAttr]
 have ll:T.length≤T'.length:=by simp at l;omega
 exact ⟨by simpa using ll,hK _ (by simpa using ll) (aB.mk (s:=eJ s 100 ps) (k1.put t2.no _) pa' (t2.put rfl rfl rfl rfl rfl))⟩
theorem XN {T0 T:aj}{o:Nat}{s:Sc}{p:Pa}{sz:Nat}{sk:SK}{ps:List Int}{ka r pv:Int}{d2:DV}{K:DV→aj→Prop}(hs:sz=1∨ps=[])(hl:ps.length≤1000000)(hps:∀k∈ps,0≤k∧k≤65535)(hd2:DV.one d2=true)(ok:aR s)(h:aB T0 T o s p)
  (hK:∀T',T.length≤T'.length→aB T0 T' o (eJ s 72 ps) p→K (.tup []) T'):aq PG 65 [.ptr o 0 0,acD ka r 72 pv (.sl sz (af .i64 ps) sk) d2] T K:=by
 unfold acD
 obtain ⟨k0,q,tq,od,m,pr,d1,e2,e3,pa,t⟩:=id h
 have hb:=t.box
 unfold aO at hb
 have hr:=ok.g.r
 have hc:=ok.g.c
 have hy:=ok.y
 have hx:=ok.x
 have p0:=bF hps 0
 have p1:=bF hps 1
 have i1:aD .i64 (.sl sz (af .i64 ps) sk):=aQ hs (fh hl hps)
 have w1:IntKind.i64.wrap (max (bE ps 0) 1-1)=max (bE ps 0) 1-1:=aP (by omega) (by omega)
 have w2:IntKind.i64.wrap (max (bE ps 1) 1-1)=max (bE ps 1) 1-1:=aP (by omega) (by omega)
 refine aq.aE dO bV (by simp [bD]) ?_
 unfold bD
 dsimp only
 simp -implicitDefEqProofs -dsimp only [ah,ai hb,hd2,dP,cN,i1,hl,aM,cB,bH,bS,cg,ck,cj,bZ,cm,cq,w1,w2,vcS,↓an,↓ak,simprocAttr]
 have h1:aB T0 (T++ [some (Ob.box [.int .i64 ka,.int .i32 r,.int .u8 72,.int .u8 pv,.sl sz (af .i64 ps) sk,d2])]) o s p:=h.keep (aA.app _ _ _)
 refine tV hr hc h1 fun T' l t'=>?_
 obtain ⟨k1,q',tq',od',m',pr',f1,f2,f3,pa',t2⟩:=t'
 have hb2:=t2.box
 unfold aO at hb2
 simp -implicitDefEqProofs -dsimp only [ah,ai hb2,vcS,↓an,↓ak,simprocAttr]
 have ll:T.length≤T'.length:=by simp at l;omega
 exact ⟨by simpa using ll,hK _ (by simpa using ll) (aB.mk (s:=eJ s 72 ps) (k1.put t2.no _) pa' (t2.put rfl rfl rfl rfl rfl))⟩
theorem TV {T0 T:aj}{o:Nat}{s:Sc}{p:Pa}{sz:Nat}{sk:SK}{ps:List Int}{ka r pv:Int}{d2:DV}{K:DV→aj→Prop}(hs:sz=1∨ps=[])(hl:ps.length≤1000000)(hps:∀k∈ps,0≤k∧k≤65535)(hd2:DV.one d2=true)(ok:aR s)(h:aB T0 T o s p)
  (hK:∀T',T.length≤T'.length→aB T0 T' o (eJ s 102 ps) p→K (.tup []) T'):aq PG 65 [.ptr o 0 0,acD ka r 102 pv (.sl sz (af .i64 ps) sk) d2] T K:=by
 unfold acD
 obtain ⟨k0,q,tq,od,m,pr,d1,e2,e3,pa,t⟩:=id h
 have hb:=t.box
 unfold aO at hb
 have hr:=ok.g.r
 have hc:=ok.g.c
 have hy:=ok.y
 have hx:=ok.x
 have p0:=bF hps 0
 have p1:=bF hps 1
 have i1:aD .i64 (.sl sz (af .i64 ps) sk):=aQ hs (fh hl hps)
 have w1:IntKind.i64.wrap (max (bE ps 0) 1-1)=max (bE ps 0) 1-1:=aP (by omega) (by omega)
 have w2:IntKind.i64.wrap (max (bE ps 1) 1-1)=max (bE ps 1) 1-1:=aP (by omega) (by omega)
 refine aq.aE dO bV (by simp [bD]) ?_
 unfold bD
 dsimp only
 simp -implicitDefEqProofs -dsimp only [ah,ai hb,hd2,dP,cN,i1,hl,aM,cB,bH,bS,cg,ck,cj,bZ,cm,cq,w1,w2,vcS,↓an,↓ak,simprocAttr]
 have h1:aB T0 (T++ [some (Ob.box [.int .i64 ka,.int .i32 r,.int .u8 102,.int .u8 pv,.sl sz (af .i64 ps) sk,d2])]) o s p:=h.keep (aA.app _ _ _)
 refine tV hr hc h1 fun T' l t'=>?_
 obtain ⟨k1,q',tq',od',m',pr',f1,f2,f3,pa',t2⟩:=t'
 have hb2:=t2.box
 unfold aO at hb2
 simp -implicitDefEqProofs -dsimp only [ah,ai hb2,vcS,↓an,↓ak,simprocAttr]
 have ll:T.length≤T'.length:=by simp at l;omega
 exact ⟨by simpa using ll,hK _ (by simpa using ll) (aB.mk (s:=eJ s 102 ps) (k1.put t2.no _) pa' (t2.put rfl rfl rfl rfl rfl))⟩
theorem XM {T0 T:aj}{o:Nat}{s:Sc}{p:Pa}{sz:Nat}{sk:SK}{ps:List Int}{ka r pv:Int}{d2:DV}{K:DV→aj→Prop}(hs:sz=1∨ps=[])(hl:ps.length≤1000000)(hps:∀k∈ps,0≤k∧k≤65535)(hd2:DV.one d2=true)(ok:aR s)(h:aB T0 T o s p)
  (hK:∀T',T.length≤T'.length→aB T0 T' o (eJ s 74 ps) p→K (.tup []) T'):aq PG 65 [.ptr o 0 0,acD ka r 74 pv (.sl sz (af .i64 ps) sk) d2] T K:=by
 unfold acD
 obtain ⟨k0,q,tq,od,m,pr,d1,e2,e3,pa,t⟩:=id h
 have hb:=t.box
 unfold aO at hb
 have hr:=ok.g.r
 have hc:=ok.g.c
 have hy:=ok.y
 have hx:=ok.x
 have p0:=bF hps 0
 have p1:=bF hps 1
 have i1:aD .i64 (.sl sz (af .i64 ps) sk):=aQ hs (fh hl hps)
 refine aq.aE dO bV (by simp [bD]) ?_
 unfold bD
 dsimp only
 simp -implicitDefEqProofs -dsimp only [ah,ai hb,hd2,dP,cN,i1,hl,aM,cB,bH,bS,cg,ck,cj,bZ,cm,cq,vcS,↓an,↓ak,simprocAttr]
 have h1:aB T0 (T++ [some (Ob.box [.int .i64 ka,.int .i32 r,.int .u8 74,.int .u8 pv,.sl sz (af .i64 ps) sk,d2])]) o s p:=h.keep (aA.app _ _ _)
 refine IF (row:=false) ok h1 fun T' l t'=>?_
 obtain ⟨k1,q',tq',od',m',pr',f1,f2,f3,pa',t2⟩:=t'
 have hb2:=t2.box
 unfold aO at hb2
 simp -implicitDefEqProofs -dsimp only [ah,ai hb2,vcS,↓an,↓ak,simprocAttr]
 have ll:T.length≤T'.length:=by simp at l;omega
 exact ⟨by simpa using ll,hK _ (by simpa using ll) (by rw [Fv.1];exact .mk (k1.put t2.no _) pa' (t2.put rfl rfl rfl rfl rfl))⟩
theorem XL {T0 T:aj}{o:Nat}{s:Sc}{p:Pa}{sz:Nat}{sk:SK}{ps:List Int}{ka r pv:Int}{d2:DV}{K:DV→aj→Prop}(hs:sz=1∨ps=[])(hl:ps.length≤1000000)(hps:∀k∈ps,0≤k∧k≤65535)(hd2:DV.one d2=true)(ok:aR s)(h:aB T0 T o s p)
  (hK:∀T',T.length≤T'.length→aB T0 T' o (eJ s 75 ps) p→K (.tup []) T'):aq PG 65 [.ptr o 0 0,acD ka r 75 pv (.sl sz (af .i64 ps) sk) d2] T K:=by
 unfold acD
 obtain ⟨k0,q,tq,od,m,pr,d1,e2,e3,pa,t⟩:=id h
 have hb:=t.box
 unfold aO at hb
 have hr:=ok.g.r
 have hc:=ok.g.c
 have hy:=ok.y
 have hx:=ok.x
 have p0:=bF hps 0
 have p1:=bF hps 1
 have i1:aD .i64 (.sl sz (af .i64 ps) sk):=aQ hs (fh hl hps)
 refine aq.aE dO bV (by simp [bD]) ?_
 unfold bD
 dsimp only
 simp -implicitDefEqProofs -dsimp only [ah,ai hb,hd2,dP,cN,i1,hl,aM,cB,bH,bS,cg,ck,cj,bZ,cm,cq,vcS,↓an,↓ak,simprocAttr]
 have h1:aB T0 (T++ [some (Ob.box [.int .i64 ka,.int .i32 r,.int .u8 75,.int .u8 pv,.sl sz (af .i64 ps) sk,d2])]) o s p:=h.keep (aA.app _ _ _)
 refine IF (row:=true) ok h1 fun T' l t'=>?_
 obtain ⟨k1,q',tq',od',m',pr',f1,f2,f3,pa',t2⟩:=t'
 have hb2:=t2.box
 unfold aO at hb2
 simp -implicitDefEqProofs -dsimp only [ah,ai hb2,vcS,↓an,↓ak,simprocAttr]
 have ll:T.length≤T'.length:=by simp at l;omega
 exact ⟨by simpa using ll,hK _ (by simpa using ll) (by rw [Fv.2];exact .mk (k1.put t2.no _) pa' (t2.put rfl rfl rfl rfl rfl))⟩
theorem XK {T0 T:aj}{o:Nat}{s:Sc}{p:Pa}{sz:Nat}{sk:SK}{ps:List Int}{ka r pv:Int}{d2:DV}{K:DV→aj→Prop}(hs:sz=1∨ps=[])(hl:ps.length≤1000000)(hps:∀k∈ps,0≤k∧k≤65535)(hd2:DV.one d2=true)(ok:aR s)(h:aB T0 T o s p)
  (hK:∀T',T.length≤T'.length→aB T0 T' o (eJ s 76 ps) p→K (.tup []) T'):aq PG 65 [.ptr o 0 0,acD ka r 76 pv (.sl sz (af .i64 ps) sk) d2] T K:=by
 unfold acD
 obtain ⟨k0,q,tq,od,m,pr,d1,e2,e3,pa,t⟩:=id h
 have hb:=t.box
 unfold aO at hb
 have hr:=ok.g.r
 have hc:=ok.g.c
 have hy:=ok.y
 have hx:=ok.x
 have p0:=bF hps 0
 have p1:=bF hps 1
 have i1:aD .i64 (.sl sz (af .i64 ps) sk):=aQ hs (fh hl hps)
 refine aq.aE dO bV (by simp [bD]) ?_
 unfold bD
 dsimp only
 simp -implicitDefEqProofs -dsimp only [ah,ai hb,hd2,dP,cN,i1,hl,aM,cB,bH,bS,cg,ck,cj,bZ,cm,cq,vcS,↓an,↓ak,simprocAttr]
 have h1:aB T0 (T++ [some (Ob.box [.int .i64 ka,.int .i32 r,.int .u8 76,.int .u8 pv,.sl sz (af .i64 ps) sk,d2])]) o s p:=h.keep (aA.app _ _ _)
 refine zC (n:=max (bE ps 0) 1) ok (by decide) h1 fun T' l t'=>?_
 obtain ⟨k1,q',tq',od',m',pr',f1,f2,f3,pa',t2⟩:=t'
 have hb2:=t2.box
 unfold aO at hb2
 simp -implicitDefEqProofs -dsimp only [ah,ai hb2,vcS,↓an,↓ak,simprocAttr]
 have ll:T.length≤T'.length:=by simp at l;omega
 exact ⟨by simpa using ll,hK _ (by simpa using ll) (by rw [va (by decide)];exact .mk (k1.put t2.no _) pa' (t2.put rfl rfl rfl rfl rfl))⟩
theorem XJ {T0 T:aj}{o:Nat}{s:Sc}{p:Pa}{sz:Nat}{sk:SK}{ps:List Int}{ka r pv:Int}{d2:DV}{K:DV→aj→Prop}(hs:sz=1∨ps=[])(hl:ps.length≤1000000)(hps:∀k∈ps,0≤k∧k≤65535)(hd2:DV.one d2=true)(ok:aR s)(h:aB T0 T o s p)
  (hK:∀T',T.length≤T'.length→aB T0 T' o (eJ s 77 ps) p→K (.tup []) T'):aq PG 65 [.ptr o 0 0,acD ka r 77 pv (.sl sz (af .i64 ps) sk) d2] T K:=by
 unfold acD
 obtain ⟨k0,q,tq,od,m,pr,d1,e2,e3,pa,t⟩:=id h
 have hb:=t.box
 unfold aO at hb
 have hr:=ok.g.r
 have hc:=ok.g.c
 have hy:=ok.y
 have hx:=ok.x
 have p0:=bF hps 0
 have p1:=bF hps 1
 have i1:aD .i64 (.sl sz (af .i64 ps) sk):=aQ hs (fh hl hps)
 refine aq.aE dO bV (by simp [bD]) ?_
 unfold bD
 dsimp only
 simp -implicitDefEqProofs -dsimp only [ah,ai hb,hd2,dP,cN,i1,hl,aM,cB,bH,bS,cg,ck,cj,bZ,cm,cq,vcS,↓an,↓ak,simprocAttr]
 have h1:aB T0 (T++ [some (Ob.box [.int .i64 ka,.int .i32 r,.int .u8 77,.int .u8 pv,.sl sz (af .i64 ps) sk,d2])]) o s p:=h.keep (aA.app _ _ _)
 refine zC (n:=max (bE ps 0) 1) ok (by decide) h1 fun T' l t'=>?_
 obtain ⟨k1,q',tq',od',m',pr',f1,f2,f3,pa',t2⟩:=t'
 have hb2:=t2.box
 unfold aO at hb2
 simp -implicitDefEqProofs -dsimp only [ah,ai hb2,vcS,↓an,↓ak,simprocAttr]
 have ll:T.length≤T'.length:=by simp at l;omega
 exact ⟨by simpa using ll,hK _ (by simpa using ll) (by rw [va (by decide)];exact .mk (k1.put t2.no _) pa' (t2.put rfl rfl rfl rfl rfl))⟩
theorem XH {T0 T:aj}{o:Nat}{s:Sc}{p:Pa}{sz:Nat}{sk:SK}{ps:List Int}{ka r pv:Int}{d2:DV}{K:DV→aj→Prop}(hs:sz=1∨ps=[])(hl:ps.length≤1000000)(hps:∀k∈ps,0≤k∧k≤65535)(hd2:DV.one d2=true)(ok:aR s)(h:aB T0 T o s p)
  (hK:∀T',T.length≤T'.length→aB T0 T' o (eJ s 83 ps) p→K (.tup []) T'):aq PG 65 [.ptr o 0 0,acD ka r 83 pv (.sl sz (af .i64 ps) sk) d2] T K:=by
 unfold acD
 obtain ⟨k0,q,tq,od,m,pr,d1,e2,e3,pa,t⟩:=id h
 have hb:=t.box
 unfold aO at hb
 have hr:=ok.g.r
 have hc:=ok.g.c
 have hy:=ok.y
 have hx:=ok.x
 have p0:=bF hps 0
 have p1:=bF hps 1
 have i1:aD .i64 (.sl sz (af .i64 ps) sk):=aQ hs (fh hl hps)
 refine aq.aE dO bV (by simp [bD]) ?_
 unfold bD
 dsimp only
 simp -implicitDefEqProofs -dsimp only [ah,ai hb,hd2,dP,cN,i1,hl,aM,cB,bH,bS,cg,ck,cj,bZ,cm,cq,vcS,↓an,↓ak,simprocAttr]
 have h1:aB T0 (T++ [some (Ob.box [.int .i64 ka,.int .i32 r,.int .u8 83,.int .u8 pv,.sl sz (af .i64 ps) sk,d2])]) o s p:=h.keep (aA.app _ _ _)
 refine zC (n:=max (bE ps 0) 1) ok (by decide) h1 fun T' l t'=>?_
 obtain ⟨k1,q',tq',od',m',pr',f1,f2,f3,pa',t2⟩:=t'
 have hb2:=t2.box
 unfold aO at hb2
 simp -implicitDefEqProofs -dsimp only [ah,ai hb2,vcS,↓an,↓ak,simprocAttr]
 have ll:T.length≤T'.length:=by simp at l;omega
 exact ⟨by simpa using ll,hK _ (by simpa using ll) (by rw [va (by decide)];exact .mk (k1.put t2.no _) pa' (t2.put rfl rfl rfl rfl rfl))⟩
theorem XG {T0 T:aj}{o:Nat}{s:Sc}{p:Pa}{sz:Nat}{sk:SK}{ps:List Int}{ka r pv:Int}{d2:DV}{K:DV→aj→Prop}(hs:sz=1∨ps=[])(hl:ps.length≤1000000)(hps:∀k∈ps,0≤k∧k≤65535)(hd2:DV.one d2=true)(ok:aR s)(h:aB T0 T o s p)
  (hK:∀T',T.length≤T'.length→aB T0 T' o (eJ s 84 ps) p→K (.tup []) T'):aq PG 65 [.ptr o 0 0,acD ka r 84 pv (.sl sz (af .i64 ps) sk) d2] T K:=by
 unfold acD
 obtain ⟨k0,q,tq,od,m,pr,d1,e2,e3,pa,t⟩:=id h
 have hb:=t.box
 unfold aO at hb
 have hr:=ok.g.r
 have hc:=ok.g.c
 have hy:=ok.y
 have hx:=ok.x
 have p0:=bF hps 0
 have p1:=bF hps 1
 have i1:aD .i64 (.sl sz (af .i64 ps) sk):=aQ hs (fh hl hps)
 refine aq.aE dO bV (by simp [bD]) ?_
 unfold bD
 dsimp only
 simp -implicitDefEqProofs -dsimp only [ah,ai hb,hd2,dP,cN,i1,hl,aM,cB,bH,bS,cg,ck,cj,bZ,cm,cq,vcS,↓an,↓ak,simprocAttr]
 have h1:aB T0 (T++ [some (Ob.box [.int .i64 ka,.int .i32 r,.int .u8 84,.int .u8 pv,.sl sz (af .i64 ps) sk,d2])]) o s p:=h.keep (aA.app _ _ _)
 refine zC (n:=max (bE ps 0) 1) ok (by decide) h1 fun T' l t'=>?_
 obtain ⟨k1,q',tq',od',m',pr',f1,f2,f3,pa',t2⟩:=t'
 have hb2:=t2.box
 unfold aO at hb2
 simp -implicitDefEqProofs -dsimp only [ah,ai hb2,vcS,↓an,↓ak,simprocAttr]
 have ll:T.length≤T'.length:=by simp at l;omega
 exact ⟨by simpa using ll,hK _ (by simpa using ll) (by rw [va (by decide)];exact .mk (k1.put t2.no _) pa' (t2.put rfl rfl rfl rfl rfl))⟩
theorem XT {T0 T:aj}{o:Nat}{s:Sc}{p:Pa}{sz:Nat}{sk:SK}{ps:List Int}{ka r pv:Int}{d2:DV}{K:DV→aj→Prop}(hs:sz=1∨ps=[])(hl:ps.length≤1000000)(hps:∀k∈ps,0≤k∧k≤65535)(hd2:DV.one d2=true)(ok:aR s)(h:aB T0 T o s p)
  (hK:∀T',T.length≤T'.length→aB T0 T' o (eJ s 64 ps) p→K (.tup []) T'):aq PG 65 [.ptr o 0 0,acD ka r 64 pv (.sl sz (af .i64 ps) sk) d2] T K:=by
 unfold acD
 obtain ⟨k0,q,tq,od,m,pr,d1,e2,e3,pa,t⟩:=id h
 have hb:=t.box
 unfold aO at hb
 have hr:=ok.g.r
 have hc:=ok.g.c
 have hy:=ok.y
 have hx:=ok.x
 have p0:=bF hps 0
 have p1:=bF hps 1
 have i1:aD .i64 (.sl sz (af .i64 ps) sk):=aQ hs (fh hl hps)
 refine aq.aE dO bV (by simp [bD]) ?_
 unfold bD
 dsimp only
 simp -implicitDefEqProofs -dsimp only [ah,ai hb,hd2,dP,cN,i1,hl,aM,cB,bH,bS,cg,ck,cj,bZ,cm,cq,vcS,↓an,↓ak,simprocAttr]
 have t1:=t.mono (aA.app T [some (Ob.box [.int .i64 ka,.int .i32 r,.int .u8 64,.int .u8 pv,.sl sz (af .i64 ps) sk,d2])] [])
 have kk:=k0.eD [some (Ob.box [.int .i64 ka,.int .i32 r,.int .u8 64,.int .u8 pv,.sl sz (af .i64 ps) sk,d2])]
 refine aax t1.cells ok.g ok.y (Nat.le_of_lt hx) fun T' p' hp hc' k=>?_
 have hb2:=k.at t1.box (by simp)
 unfold aO at hb2
 simp -implicitDefEqProofs -dsimp only [ah,ai hb2,List.set_set,vcS,↓an,↓ak,simprocAttr]
 have ll:T.length≤T'.length:=by have:=k.1;simp at this;omega
 exact ⟨by simpa using ll,hK _ (by simpa using ll) (aB.Dr (s2:={ s with wrap:=false}) pa kk t1 k hp hc' (Kg ok.g ok.y) rfl rfl rfl)⟩
theorem XI {T0 T:aj}{o:Nat}{s:Sc}{p:Pa}{sz:Nat}{sk:SK}{ps:List Int}{ka r pv:Int}{d2:DV}{K:DV→aj→Prop}(hs:sz=1∨ps=[])(hl:ps.length≤1000000)(hps:∀k∈ps,0≤k∧k≤65535)(hd2:DV.one d2=true)(ok:aR s)(h:aB T0 T o s p)
  (hK:∀T',T.length≤T'.length→aB T0 T' o (eJ s 80 ps) p→K (.tup []) T'):aq PG 65 [.ptr o 0 0,acD ka r 80 pv (.sl sz (af .i64 ps) sk) d2] T K:=by
 unfold acD
 obtain ⟨k0,q,tq,od,m,pr,d1,e2,e3,pa,t⟩:=id h
 have hb:=t.box
 unfold aO at hb
 have hr:=ok.g.r
 have hc:=ok.g.c
 have hy:=ok.y
 have hx:=ok.x
 have p0:=bF hps 0
 have p1:=bF hps 1
 have i1:aD .i64 (.sl sz (af .i64 ps) sk):=aQ hs (fh hl hps)
 refine aq.aE dO bV (by simp [bD]) ?_
 unfold bD
 dsimp only
 simp -implicitDefEqProofs -dsimp only [ah,ai hb,hd2,dP,cN,i1,hl,aM,cB,bH,bS,cg,ck,cj,bZ,cm,cq,vcS,↓an,↓ak,simprocAttr]
 have t1:=t.mono (aA.app T [some (Ob.box [.int .i64 ka,.int .i32 r,.int .u8 80,.int .u8 pv,.sl sz (af .i64 ps) sk,d2])] [])
 have kk:=k0.eD [some (Ob.box [.int .i64 ka,.int .i32 r,.int .u8 80,.int .u8 pv,.sl sz (af .i64 ps) sk,d2])]
 refine aay t1.cells ok.g ok.y (Nat.le_of_lt hx) fun T' p' hp hc' k=>?_
 have hb2:=k.at t1.box (by simp)
 unfold aO at hb2
 simp -implicitDefEqProofs -dsimp only [ah,ai hb2,List.set_set,vcS,↓an,↓ak,simprocAttr]
 have ll:T.length≤T'.length:=by have:=k.1;simp at this;omega
 exact ⟨by simpa using ll,hK _ (by simpa using ll) (aB.Dr (s2:={ s with wrap:=false}) pa kk t1 k hp hc' (Lc ok.g ok.y) rfl rfl rfl)⟩
theorem XF {T0 T:aj}{o:Nat}{s:Sc}{p:Pa}{sz:Nat}{sk:SK}{ps:List Int}{ka r pv:Int}{d2:DV}{K:DV→aj→Prop}(hs:sz=1∨ps=[])(hl:ps.length≤1000000)(hps:∀k∈ps,0≤k∧k≤65535)(hd2:DV.one d2=true)(ok:aR s)(h:aB T0 T o s p)
  (hK:∀T',T.length≤T'.length→aB T0 T' o (eJ s 88 ps) p→K (.tup []) T'):aq PG 65 [.ptr o 0 0,acD ka r 88 pv (.sl sz (af .i64 ps) sk) d2] T K:=by
 unfold acD
 obtain ⟨k0,q,tq,od,m,pr,d1,e2,e3,pa,t⟩:=id h
 have hb:=t.box
 unfold aO at hb
 have hr:=ok.g.r
 have hc:=ok.g.c
 have hy:=ok.y
 have hx:=ok.x
 have p0:=bF hps 0
 have p1:=bF hps 1
 have i1:aD .i64 (.sl sz (af .i64 ps) sk):=aQ hs (fh hl hps)
 have w1:IntKind.i64.wrap ((s.x:Int)+max (bE ps 0) 1)=(s.x:Int)+max (bE ps 0) 1:=aP (by omega) (by omega)
 refine aq.aE dO bV (by simp [bD]) ?_
 unfold bD
 dsimp only
 simp -implicitDefEqProofs -dsimp only [ah,ai hb,hd2,dP,cN,i1,hl,aM,cB,bH,bS,cg,ck,cj,bZ,cm,cq,w1,vcS,↓an,↓ak,simprocAttr]
 have t1:=t.mono (aA.app T [some (Ob.box [.int .i64 ka,.int .i32 r,.int .u8 88,.int .u8 pv,.sl sz (af .i64 ps) sk,d2])] [])
 have kk:=k0.eD [some (Ob.box [.int .i64 ka,.int .i32 r,.int .u8 88,.int .u8 pv,.sl sz (af .i64 ps) sk,d2])]
 refine xl t1.cells ok.g ok.y fun T' p' hp hc' k=>?_
 have hb2:=k.at t1.box (by simp)
 unfold aO at hb2
 simp -implicitDefEqProofs -dsimp only [ah,ai hb2,List.set_set,vcS,↓an,↓ak,simprocAttr]
 have ll:T.length≤T'.length:=by have:=k.1;simp at this;omega
 exact ⟨by simpa using ll,hK _ (by simpa using ll) (aB.Dr (s2:={ s with wrap:=false}) pa kk t1 k hp hc' (jv ok.g ok.y) rfl rfl rfl)⟩
theorem TS {T0 T:aj}{o:Nat}{s:Sc}{p:Pa}{sz:Nat}{sk:SK}{ps:List Int}{ka r pv:Int}{d2:DV}{K:DV→aj→Prop}(hs:sz=1∨ps=[])(hl:ps.length≤1000000)(hps:∀k∈ps,0≤k∧k≤65535)(hd2:DV.one d2=true)(ok:aR s)(h:aB T0 T o s p)
  (hK:∀T',T.length≤T'.length→aB T0 T' o (eJ s 114 ps) p→K (.tup []) T'):aq PG 65 [.ptr o 0 0,acD ka r 114 pv (.sl sz (af .i64 ps) sk) d2] T K:=by
 unfold acD
 obtain ⟨k0,q,tq,od,m,pr,d1,e2,e3,pa,t⟩:=id h
 have hb:=t.box
 unfold aO at hb
 have hr:=ok.g.r
 have hc:=ok.g.c
 have hy:=ok.y
 have hx:=ok.x
 have p0:=bF hps 0
 have p1:=bF hps 1
 have i1:aD .i64 (.sl sz (af .i64 ps) sk):=aQ hs (fh hl hps)
 have w1:IntKind.i64.wrap (max (bE ps 0) 1-1)=max (bE ps 0) 1-1:=aP (by omega) (by omega)
 refine aq.aE dO bV (by simp [bD]) ?_
 unfold bD
 dsimp only
 simp -implicitDefEqProofs -dsimp only [ah,ai hb,hd2,dP,cN,i1,hl,aM,cB,bH,bS,cg,ck,cj,bZ,cm,cq,w1,vcS,↓an,↓ak,simprocAttr]
 have h1:aB T0 (T++ [some (Ob.box [.int .i64 ka,.int .i32 r,.int .u8 114,.int .u8 pv,.sl sz (af .i64 ps) sk,d2])]) o s p:=h.keep (aA.app _ _ _)
 refine RL ok (by omega) p1.1 h1 fun T' l t'=>?_
 simp -implicitDefEqProofs -dsimp only [ah,vcS,↓an,↓ak,simprocAttr]
 have ll:T.length≤T'.length:=by simp at l;omega
 exact ⟨ll,hK _ ll (by rw [YN];exact t')⟩
theorem TU {T0 T:aj}{o:Nat}{s:Sc}{p:Pa}{sz:Nat}{sk:SK}{ps:List Int}{ka r pv:Int}{d2:DV}{K:DV→aj→Prop}(hs:sz=1∨ps=[])(hl:ps.length≤1000000)(hps:∀k∈ps,0≤k∧k≤65535)(hd2:DV.one d2=true)(ok:aR s)(h:aB T0 T o s p)
  (hK:∀T',T.length≤T'.length→aB T0 T' o (eJ s 103 ps) p→K (.tup []) T'):aq PG 65 [.ptr o 0 0,acD ka r 103 pv (.sl sz (af .i64 ps) sk) d2] T K:=by
 unfold acD
 obtain ⟨k0,q,tq,od,m,pr,d1,e2,e3,pa,t⟩:=id h
 have hb:=t.box
 unfold aO at hb
 have hr:=ok.g.r
 have hc:=ok.g.c
 have hy:=ok.y
 have hx:=ok.x
 have p0:=bF hps 0
 have p1:=bF hps 1
 have i1:aD .i64 (.sl sz (af .i64 ps) sk):=aQ hs (fh hl hps)
 refine aq.aE dO bV (by simp [bD]) ?_
 unfold bD
 dsimp only
 simp -implicitDefEqProofs -dsimp only [ah,ai hb,hd2,dP,cN,i1,hl,aM,cB,bH,bS,cg,ck,cj,bZ,cm,cq,vcS,↓an,↓ak,simprocAttr]
 have h1:aB T0 (T++ [some (Ob.box [.int .i64 ka,.int .i32 r,.int .u8 103,.int .u8 pv,.sl sz (af .i64 ps) sk,d2])]) o s p:=h.keep (aA.app _ _ _)
 refine TX ok h1 fun T' l t'=>?_
 simp -implicitDefEqProofs -dsimp only [ah,vcS,↓an,↓ak,simprocAttr]
 have ll:T.length≤T'.length:=by simp at l;omega
 exact ⟨ll,hK _ ll (by rw [SQ ok.aU];exact t')⟩
theorem TT {T0 T:aj}{o:Nat}{s:Sc}{p:Pa}{sz:Nat}{sk:SK}{ps:List Int}{ka r pv:Int}{d2:DV}{K:DV→aj→Prop}(hs:sz=1∨ps=[])(hl:ps.length≤1000000)(hps:∀k∈ps,0≤k∧k≤65535)(hd2:DV.one d2=true)(ok:aR s)(h:aB T0 T o s p)
  (hK:∀T',T.length≤T'.length→aB T0 T' o (eJ s 109 ps) p→K (.tup []) T'):aq PG 65 [.ptr o 0 0,acD ka r 109 pv (.sl sz (af .i64 ps) sk) d2] T K:=by
 unfold acD
 obtain ⟨k0,q,tq,od,m,pr,d1,e2,e3,pa,t⟩:=id h
 have hb:=t.box
 unfold aO at hb
 have hr:=ok.g.r
 have hc:=ok.g.c
 have hy:=ok.y
 have hx:=ok.x
 have p0:=bF hps 0
 have p1:=bF hps 1
 have i1:aD .i64 (.sl sz (af .i64 ps) sk):=aQ hs (fh hl hps)
 refine aq.aE dO bV (by simp [bD]) ?_
 unfold bD
 dsimp only
 simp -implicitDefEqProofs -dsimp only [ah,ai hb,hd2,dP,cN,i1,hl,aM,cB,bH,bS,cg,ck,cj,bZ,cm,cq,vcS,↓an,↓ak,simprocAttr]
 have h1:aB T0 (T++ [some (Ob.box [.int .i64 ka,.int .i32 r,.int .u8 109,.int .u8 pv,.sl sz (af .i64 ps) sk,d2])]) o s p:=h.keep (aA.app _ _ _)
 refine T7 hs hps hl ok h1 fun T' l t'=>?_
 simp -implicitDefEqProofs -dsimp only [ah,vcS,↓an,↓ak,simprocAttr]
 have ll:T.length≤T'.length:=by simp at l;omega
 exact ⟨ll,hK _ ll t'⟩
theorem XD {T0 T:aj}{o:Nat}{s:Sc}{p:Pa}{sz:Nat}{sk:SK}{ps:List Int}{ka r b pv:Int}{d2:DV}{K:DV→aj→Prop}(hs:sz=1∨ps=[])(hl:ps.length≤1000000)(hps:∀k∈ps,0≤k∧k≤65535)(hd2:DV.one d2=true)(h:aB T0 T o s p)
  (hn:¬b=65∧¬b=66∧¬b=67∧¬b=68∧¬b=71∧¬b=96∧¬b=100∧¬b=72∧¬b=102∧¬b=74∧¬b=75∧¬b=76∧¬b=77∧¬b=83∧¬b=84∧¬b=64∧¬b=80∧¬b=88∧¬b=114∧¬b=103∧¬b=109) (hK:∀T',T.length≤T'.length→aB T0 T' o s p→K (.tup []) T'):aq PG 65 [.ptr o 0 0,acD ka r b pv (.sl sz (af .i64 ps) sk) d2] T K:=by
 unfold acD
 obtain ⟨n65,n66,n67,n68,n71,n96,Yl,n72,Z5,n74,n75,n76,n77,n83,n84,n64,n80,n88,Yi,Yk,Yj⟩:=hn
 have i1:aD .i64 (.sl sz (af .i64 ps) sk):=aQ hs (fh hl hps)
 refine aq.aE dO bV (by simp [bD]) ?_
 unfold bD
 dsimp only
 simp -implicitDefEqProofs -dsimp only [ah,hd2,dP,cN,i1,hl,aM,eq_false n65,eq_false n66,eq_false n67,eq_false n68,eq_false n71,eq_false n96,eq_false Yl,eq_false n72,eq_false Z5,eq_false n74,eq_false n75,eq_false n76,eq_false n77,eq_false n83,eq_false n84,eq_false n64,eq_false n80,eq_false n88,eq_false Yi,eq_false Yk,eq_false Yj,vcS,↓an,↓ak,simprocAttr]
 exact hK _ (by simp) (h.keep (aA.app _ _ _))
theorem ZJ {T0 T:aj}{o:Nat}{s:Sc}{p:Pa}{sz:Nat}{sk:SK}{ps:List Int}{ka r b pv:Int}{d2:DV}{K:DV→aj→Prop}(hs:sz=1∨ps=[])(hl:ps.length≤1000000)(hps:∀k∈ps,0≤k∧k≤65535)(hd2:DV.one d2=true)(ok:aR s)(h:aB T0 T o s p)
  (hK:∀T',T.length≤T'.length→aB T0 T' o (eJ s b ps) p→K (.tup []) T'):aq PG 65 [.ptr o 0 0,acD ka r b pv (.sl sz (af .i64 ps) sk) d2] T K:=by
 rcases Decidable.em (b=65) with e | n65
 ·subst e;exact XS hs hl hps hd2 ok h hK
 rcases Decidable.em (b=66) with e | n66
 ·subst e;exact XR hs hl hps hd2 ok h hK
 rcases Decidable.em (b=67) with e | n67
 ·subst e;exact XQ hs hl hps hd2 ok h hK
 rcases Decidable.em (b=68) with e | n68
 ·subst e;exact XP hs hl hps hd2 ok h hK
 rcases Decidable.em (b=71) with e | n71
 ·subst e;exact XO hs hl hps hd2 ok h hK
 rcases Decidable.em (b=96) with e | n96
 ·subst e;exact XE hs hl hps hd2 ok h hK
 rcases Decidable.em (b=100) with e | Yl
 ·subst e;exact TW hs hl hps hd2 ok h hK
 rcases Decidable.em (b=72) with e | n72
 ·subst e;exact XN hs hl hps hd2 ok h hK
 rcases Decidable.em (b=102) with e | Z5
 ·subst e;exact TV hs hl hps hd2 ok h hK
 rcases Decidable.em (b=74) with e | n74
 ·subst e;exact XM hs hl hps hd2 ok h hK
 rcases Decidable.em (b=75) with e | n75
 ·subst e;exact XL hs hl hps hd2 ok h hK
 rcases Decidable.em (b=76) with e | n76
 ·subst e;exact XK hs hl hps hd2 ok h hK
 rcases Decidable.em (b=77) with e | n77
 ·subst e;exact XJ hs hl hps hd2 ok h hK
 rcases Decidable.em (b=83) with e | n83
 ·subst e;exact XH hs hl hps hd2 ok h hK
 rcases Decidable.em (b=84) with e | n84
 ·subst e;exact XG hs hl hps hd2 ok h hK
 rcases Decidable.em (b=64) with e | n64
 ·subst e;exact XT hs hl hps hd2 ok h hK
 rcases Decidable.em (b=80) with e | n80
 ·subst e;exact XI hs hl hps hd2 ok h hK
 rcases Decidable.em (b=88) with e | n88
 ·subst e;exact XF hs hl hps hd2 ok h hK
 rcases Decidable.em (b=114) with e | Yi
 ·subst e;exact TS hs hl hps hd2 ok h hK
 rcases Decidable.em (b=103) with e | Yk
 ·subst e;exact TU hs hl hps hd2 ok h hK
 rcases Decidable.em (b=109) with e | Yj
 ·subst e;exact TT hs hl hps hd2 ok h hK
 have e:eJ s b ps=s:=by
  unfold eJ
  dsimp only
  rw [if_neg n65,if_neg n66,if_neg n67,if_neg n68,if_neg (by omega),if_neg Yl,if_neg (by omega),if_neg n74,if_neg n75,if_neg n76,if_neg n77,if_neg n83,if_neg n84,if_neg n64,if_neg n80,if_neg n88,if_neg Yi,if_neg Yk,if_neg Yj]
 rw [e] at hK
 exact XD hs hl hps hd2 h ⟨n65,n66,n67,n68,n71,n96,Yl,n72,Z5,n74,n75,n76,n77,n83,n84,n64,n80,n88,Yi,Yk,Yj⟩ hK
end Go.Proofs.YtjmnbpilnneonaaGreatDoor
