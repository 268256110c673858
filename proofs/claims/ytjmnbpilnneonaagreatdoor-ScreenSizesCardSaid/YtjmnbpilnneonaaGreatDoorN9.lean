/- Texts H13, H14, H15, H16, C10, C11, C12, C13 in one. -/
import Derived.Test.YtjmnbpilnneonaaGreatDoorN8
import Derived.Test.YtjmnbpilnneonaaGreatDoorN4
import Derived.Test.YtjmnbpilnneonaaGreatDoorN1
set_option linter.unusedVariables false
set_option linter.unusedSimpArgs false
set_option maxRecDepth 10000
namespace Go.Proofs.YtjmnbpilnneonaaGreatDoor
open Go.RowKit
noncomputable section
variable {L:List Ce}{s:Sc}{sz rows aa a b y q:Nat}{p:Pa}{T:ay}{k:SK}{l:List Int}
def gj:RFn:=⟨2,70,(SR [OP 3 (.box 6 (.t 1))] [0,3] (.blk 0 (SR [FA 5 0 3,LD 6 5,BI 7 .eql 6 0,MV 4 7] [0,3,4] (.cond (.t 4) (.reg [MV 8 0,FA 9 1 3,LD 10 9,OP 11 (.call 62 [.t 8,.t 10])] 0 []) (SR [FA 13 0 3,LD 14 13,BI 15 .eql 14 1,MV 12 15] [0,3,12] (.cond (.t 12) (.reg [MV 16 0,FA 17 2 3,LD 18 17,OP 19 (.call 63 [.t 16,.t 18])] 0 []) (SR [FA 21 0 3,LD 22 21,BI 23 .eql 22 2,MV 24 23,FG 25 5 3 24 true,LG 26 25 24 true,OG 27 (.len (.t 26)) 24 true,OG 28 (.bin .eql (.t 27) (.c (.int .i64 0))) 24 true,OP 29 (.pick (.t 24) (.t 28) (.c (.bool false))),MV 20 29] [0,3,20] (.cond (.t 20) (.reg [MV 30 0,FA 31 2 3,LD 32 31,OP 33 (.call 64 [.t 30,.t 32])] 0 []) (SR [FA 35 0 3,LD 36 35,BI 37 .eql 36 3,MV 38 37,FG 39 5 3 38 true,LG 40 39 38 true,OG 41 (.len (.t 40)) 38 true,OG 42 (.bin .eql (.t 41) (.c (.int .i64 0))) 38 true,OP 43 (.pick (.t 38) (.t 42) (.c (.bool false))),MV 44 43,FG 45 3 3 44 true,LG 46 45 44 true,OG 47 (.bin .eql (.t 46) (.c (.int .u8 0))) 44 true,OP 48 (.pick (.t 44) (.t 47) (.c (.bool false))),MV 34 48] [0,3,34] (.cond (.t 34) (.reg [MV 49 0,LT 50 6 3,OP 51 (.call 65 [.t 49,.t 50])] 0 []) (SR [FA 53 0 3,LD 54 53,BI 55 .eql 54 3,MV 56 55,FG 57 5 3 56 true,LG 58 57 56 true,OG 59 (.len (.t 58)) 56 true,OG 60 (.bin .eql (.t 59) (.c (.int .i64 0))) 56 true,OP 61 (.pick (.t 56) (.t 60) (.c (.bool false))),MV 62 61,FG 63 3 3 62 true,LG 64 63 62 true,OG 65 (.bin .eql (.t 64) (.c (.int .u8 63))) 62 true,OP 66 (.pick (.t 62) (.t 65) (.c (.bool false))),MV 52 66] [0,3,52] (.cond (.t 52) (.reg [MV 67 0,LT 68 6 3,OP 69 (.call 66 [.t 67,.t 68])] 0 []) .skip)))))))))))),[]⟩
theorem iH:aK PG.P (aA PG.P 34 gj) 34=some gj:=by kernel_rfl
def doF (s:Sc)(k r b pv:Int)(ps is:List Int):Sc:=
 if k=0 then je s r else if k=1 then xD s b else if k=2/\is=[] then jS s b
 else if k=3/\is=[]/\pv=0 then eS s b ps
 else if k=3/\is=[]/\pv=63 then (if b=104\/b=108 then ps.foldl (eD (decide (b=104))) s else s)
 else s
def doP (p:Pa)(k b:Int)(is:List Int):Pa:=if k=2/\is=[] then mI b p else p
theorem KJ (h:aR s)(k r b pv:Int)(ps is:List Int):aR (doF s k r b pv ps is):=by
 unfold doF
 split
 ·exact NY h r
 split
 ·exact Zi h b
 split
 ·exact Zg h b
 split
 ·exact Zk h b ps
 split
 ·split
  ·exact qF h
  ·exact h
 ·exact h
theorem acQ {T0:ay}{o:Nat}{sz2:Nat}{sk sk2:SK}{ps is:List Int}{k r b pv:Int}{K:DV->ay->Prop}(hr:-2147483648<=r/\r<=2147483647)(hs:sz=1\/ps=[])(hl:ps.length<=1000000)(hps:∀k∈ps,0<=k/\k<=65535)(ok:aR s)(h:aB T0 T o s p)
  (hK:∀T',T.length<=T'.length->aB T0 T' o (doF s k r b pv ps is) (doP p k b is)->K (.tup []) T'):aj PG 34 [.ptr o 0 0,acD k r b pv (.sl sz (af .i64 ps) sk) (.sl sz2 (af .u8 is) sk2)] T K:=by
 have yI:DV.one (.sl sz2 (af .u8 is) sk2)=true:=rfl
 have h1:=h.keep (ax.app T [some (Ob.box [.int .i64 k,.int .i32 r,.int .u8 b,.int .u8 pv,.sl sz (af .i64 ps) sk,.sl sz2 (af .u8 is) sk2])] [])
 have hli:(af .u8 is).length=is.length:=by simp[af]
 have eV:∀T',T.length+1<=T'.length->aB T0 T' o (doF s k r b pv ps is) (doP p k b is)->T.length<=T'.length/\K (.tup []) T':=fun T' l t=>⟨by omega,hK T' (by omega) t⟩
 unfold acD
 rcases Decidable.em (k=0) with rfl | n0
 ·rw[show doF s 0 r b pv ps is=je s r from rfl,show doP p 0 b is=p by simp[doP]] at eV
  refine aj.aE FOk.nil iH (by simp[gj]) ?_
  unfold gj
  dsimp only
  simp -implicitDefEqProofs -dsimp only[ah,vcS,↓vcQ,simprocAttr]
  refine QL hr ok h1 fun T' l t'=>?_
  simp -implicitDefEqProofs -dsimp only[ah,vcS,↓vcQ,simprocAttr]
  exact eV T' (by simpa using l) t'
 rcases Decidable.em (k=1) with rfl | n1
 ·rw[show doF s 1 r b pv ps is=xD s b from rfl,show doP p 1 b is=p by simp[doP]] at eV
  refine aj.aE FOk.nil iH (by simp[gj]) ?_
  unfold gj
  dsimp only
  simp -implicitDefEqProofs -dsimp only[ah,vcS,↓vcQ,simprocAttr]
  refine aaE ok h1 fun T' l t'=>?_
  simp -implicitDefEqProofs -dsimp only[ah,vcS,↓vcQ,simprocAttr]
  exact eV T' (by simpa using l) t'
 rcases Decidable.em (k=2) with rfl | n2
 ·rcases Decidable.em (is=[]) with e | e
  ·have e':(is.length:Int)=0:=by rw[e];rfl
   rw[show doF s 2 r b pv ps is=jS s b by simp[doF,e],show doP p 2 b is=mI b p by simp[doP,e]] at eV
   refine aj.aE FOk.nil iH (by simp[gj]) ?_
   unfold gj
   dsimp only
   simp -implicitDefEqProofs -dsimp only[ah,hli,eq_true e',vcS,↓vcQ,simprocAttr]
   refine aaD ok h1 fun T' l t'=>?_
   simp -implicitDefEqProofs -dsimp only[ah,vcS,↓vcQ,simprocAttr]
   exact eV T' (by simpa using l) t'
  ·have e':¬(is.length:Int)=0:=fun h=>e (List.length_eq_zero_iff.1 (by omega))
   rw[show doF s 2 r b pv ps is=s by simp[doF,e],show doP p 2 b is=p by simp[doP,e]] at eV
   refine aj.aE FOk.nil iH (by simp[gj]) ?_
   unfold gj
   dsimp only
   simp -implicitDefEqProofs -dsimp only[ah,hli,eq_false e',vcS,↓vcQ,simprocAttr]
   exact (eV _ (by simp) h1).2
 rcases Decidable.em (k=3) with rfl | n3
 ·rw[show doP p 3 b is=p by simp[doP]] at eV
  rcases Decidable.em (is=[]) with e | e
  ·have e':(is.length:Int)=0:=by rw[e];rfl
   rcases Decidable.em (pv=0) with rfl | p0
   ·rw[show doF s 3 r b 0 ps is=eS s b ps by simp[doF,e]] at eV
    refine aj.aE FOk.nil iH (by simp[gj]) ?_
    unfold gj
    dsimp only
    simp -implicitDefEqProofs -dsimp only[ah,hli,eq_true e',vcS,↓vcQ,simprocAttr]
    refine aaF hs hl hps rfl ok h1 fun T' l t'=>?_
    simp -implicitDefEqProofs -dsimp only[ah,vcS,↓vcQ,simprocAttr]
    exact eV T' (by simpa using l) t'
   ·rcases Decidable.em (pv=63) with rfl | p6
    ·rw[show doF s 3 r b 63 ps is=(if b=104\/b=108 then ps.foldl (eD (decide (b=104))) s else s) by simp[doF,e]] at eV
     refine aj.aE FOk.nil iH (by simp[gj]) ?_
     unfold gj
     dsimp only
     simp -implicitDefEqProofs -dsimp only[ah,hli,eq_true e',vcS,↓vcQ,simprocAttr]
     refine QN hs hl rfl ok h1 fun T' l t'=>?_
     simp -implicitDefEqProofs -dsimp only[ah,vcS,↓vcQ,simprocAttr]
     exact eV T' (by simpa using l) t'
    ·rw[show doF s 3 r b pv ps is=s by simp[doF,e,p0,p6]] at eV
     refine aj.aE FOk.nil iH (by simp[gj]) ?_
     unfold gj
     dsimp only
     simp -implicitDefEqProofs -dsimp only[ah,hli,eq_true e',eq_false p0,eq_false p6,vcS,↓vcQ,simprocAttr]
     exact (eV _ (by simp) h1).2
  ·have e':¬(is.length:Int)=0:=fun h=>e (List.length_eq_zero_iff.1 (by omega))
   rw[show doF s 3 r b pv ps is=s by simp[doF,e]] at eV
   refine aj.aE FOk.nil iH (by simp[gj]) ?_
   unfold gj
   dsimp only
   simp -implicitDefEqProofs -dsimp only[ah,hli,eq_false e',vcS,↓vcQ,simprocAttr]
   exact (eV _ (by simp) h1).2
 ·rw[show doF s k r b pv ps is=s by simp[doF,n0,n1,n2,n3],show doP p k b is=p by simp[doP,n2]] at eV
  refine aj.aE FOk.nil iH (by simp[gj]) ?_
  unfold gj
  dsimp only
  simp -implicitDefEqProofs -dsimp only[ah,hli,eq_false n0,eq_false n1,eq_false n2,eq_false n3,vcS,↓vcQ,simprocAttr]
  exact (eV _ (by simp) h1).2
def pg:RFn:=⟨1,34,(SR [OP 1 (.box 24 (.t 0)),OP 2 (.alloc ZS)] [1,2] (.seq (.cJ (.take (FA 3 2 1) [] (.take (LD 4 3) [] (.take (FA 6 16 1) [] (.take (LD 7 6) [] (.take (FA 9 9 1) [] (.take (LD 10 9) [] (.op (OP 5 (.call 43 [.t 4])) (.take (FA 12 2 1) [] (.op (OP 8 (.call 43 [.t 7])) (.mid (OP 11 (.call 56 [.t 10])) (.op (SA 1 12 5) (.take (FA 13 16 1) [] (.op (SA 1 13 8) (.take (FA 14 9 1) [] (.op (SA 1 14 11) .done))))))))))))))) 0 [1,2]) (.seq (.cJ (.take (FA 15 19 1) [] (.take (FA 16 2 15) [] (.take (LD 17 16) [] (.take (FA 19 19 1) [] (.take (FA 20 3 19) [] (.take (LD 21 20) [] (.take (FA 23 19 1) [] (.take (FA 24 4 23) [] (.take (LD 25 24) [] (.op (OP 18 (.call 57 [.t 17])) (.take (FA 27 19 1) [] (.take (FA 28 2 27) [] (.op (OP 22 (.call 58 [.t 21])) (.mid (OP 26 (.call 58 [.t 25])) (.op (SA 1 28 18) (.take (FA 29 19 1) [] (.take (FA 30 3 29) [] (.op (SA 1 30 22) (.take (FA 31 19 1) [] (.take (FA 32 4 31) [] (.op (SA 1 32 26) .done))))))))))))))))))))) 0 [1,2]) (SR [LT 33 24 1,SA 24 2 33] [2] .ret)))),[.c 2 true 24]⟩
theorem BN:aK PG.P (aA PG.P 32 pg) 32=some pg:=by kernel_rfl
def rY:RFn:=⟨1,21,(SR [OP 1 (.box 24 (.t 0)),MB 2 false] [1] (SR [FA 3 0 1,LD 4 3,BI 5 .geq 4 1,MV 6 5,FG 7 0 1 6 true,LG 8 7 6 true,OG 9 (.bin .leq (.t 8) (.c (.int .i64 1000))) 6 true,OP 10 (.pick (.t 6) (.t 9) (.c (.bool false))),MV 11 10,FG 12 1 1 11 true,LG 13 12 11 true,OG 14 (.bin .geq (.t 13) (.c (.int .i64 1))) 11 true,OP 15 (.pick (.t 11) (.t 14) (.c (.bool false))),MV 16 15,FG 17 1 1 16 true,LG 18 17 16 true,OG 19 (.bin .leq (.t 18) (.c (.int .i64 1000))) 16 true,OP 20 (.pick (.t 16) (.t 19) (.c (.bool false))),MV 2 20] [2] .ret)),[.t 2]⟩
theorem Es:aK PG.P (aA PG.P 24 rY) 24=some rY:=by kernel_rfl
def As (sz:Nat)(rows:List (List DV)):Prop:=(sz=3\/rows=[])/\(∃L,rows=aq L)/\rows.length<=1000000
def Yy (sz:Nat)(rows:List (List DV)):Prop:=(sz=1\/rows=[])/\(∃L,rows=bg L)/\rows.length<=1000000
theorem sI (hs:sz=3\/L=[])(hl:L.length<=1000000):As sz (aq L):=⟨hs.imp id fun h=>by rw[h];rfl,⟨L,rfl⟩,by rw[az];exact hl⟩
theorem Yx {L:List Bool}(hs:sz=1\/L=[])(hl:L.length<=1000000):Yy sz (bg L):=⟨hs.imp id fun h=>by rw[h];rfl,⟨L,rfl⟩,by rw[aY];exact hl⟩
theorem KT:av PG 43 [.sl sz [] .nil] fun n r os=>r=.sl 0 [] .nil/\os=[]:=by
 refine av.di (res:=fun n=>(.sl 0 [] .nil,[])) FOk.nil pG (by simp[jr]) fun n=>?_
 unfold jr
 dsimp only
 simp -implicitDefEqProofs -dsimp only[vcS,↓vcQ,simprocAttr]
theorem KS (hs:sz=3\/L=[])(hl:L.length<=1000000):av PG 43 [.sl sz (aq L) .gA] fun n r os=>r=.own n 0 L.length/\os=[some (.arr 3 (aq L))]:=by
 refine av.di (res:=fun n=>(.own n 0 L.length,[some (.arr 3 (aq L))])) FOk.nil pG (by simp[jr]) fun n=>?_
 unfold jr
 dsimp only
 have hn:aq L=[]↔L=[]:=by cases L <;> simp[aq]
 simp -implicitDefEqProofs -dsimp only[az,hn,hs,hl,eq_true (mu L),vcS,↓vcQ,simprocAttr]
 exact ⟨by omega,by omega⟩
theorem Un (hs:sz=3\/L=[])(hl:L.length<=1000000):av PG 43 [.sl sz (aq L) k] fun n r os=>r=.own n 0 L.length/\os=[some (.arr 3 (aq L))]:=by
 refine av.pS (i:=0) rfl (fun h=>?_) ?_
 ·have hn:L=[]:=by cases L with | nil=>rfl | cons a l=>simp[aq] at h
  subst hn
  exact KT.zk
 ·exact KS hs hl
theorem ov (L:List Bool):gW (bg L):=fun row hr c hc=>by
 simp only[bg,List.mem_map] at hr
 obtain ⟨e,_,rfl⟩:=hr
 simp at hc
 subst hc
 exact .bool _
theorem KN:av PG 56 [.sl sz [] .nil] fun n r os=>r=.sl 0 [] .nil/\os=[]:=by
 refine av.di (res:=fun n=>(.sl 0 [] .nil,[])) FOk.nil vw (by simp[mj]) fun n=>?_
 unfold mj
 dsimp only
 simp -implicitDefEqProofs -dsimp only[vcS,↓vcQ,simprocAttr]
theorem KM {L:List Bool}(hs:sz=1\/L=[])(hl:L.length<=1000000):av PG 56 [.sl sz (bg L) .gA] fun n r os=>r=.own n 0 L.length/\os=[some (.arr 1 (bg L))]:=by
 refine av.di (res:=fun n=>(.own n 0 L.length,[some (.arr 1 (bg L))])) FOk.nil vw (by simp[mj]) fun n=>?_
 unfold mj
 dsimp only
 have hn:bg L=[]↔L=[]:=by cases L <;> simp[bg]
 simp -implicitDefEqProofs -dsimp only[aY,hn,hs,hl,eq_true (ov L),vcS,↓vcQ,simprocAttr]
 exact ⟨by omega,by omega⟩
theorem Ui {L:List Bool}(hs:sz=1\/L=[])(hl:L.length<=1000000):av PG 56 [.sl sz (bg L) k] fun n r os=>r=.own n 0 L.length/\os=[some (.arr 1 (bg L))]:=by
 refine av.pS (i:=0) rfl (fun h=>?_) ?_
 ·have hn:L=[]:=by cases L with | nil=>rfl | cons a l=>simp[bg] at h
  subst hn
  exact KN.zk
 ·exact KM hs hl
def oJ:List DV->Option aS
 | [.sl sz rows k]=>some ⟨As sz rows,fun n=>(.own n 0 rows.length,[some (.arr 3 rows)])⟩
 | _=>none
theorem mV (sz:Nat)(rows:List (List DV))(k:SK):oJ [.sl sz rows k]=some ⟨As sz rows,fun n=>(.own n 0 rows.length,[some (.arr 3 rows)])⟩:=ak _
theorem Pd (args:List DV)(s:aS)(hs:oJ args=some s)(hp:s.pre):av PG 43 args fun n r os=>r=(s.res n).1/\os=(s.res n).2:=by
 unfold oJ at hs
 split at hs
 ·obtain rfl:=sj hs
  obtain ⟨h1,⟨L,rfl⟩,h3⟩:=hp
  rw[az] at h3
  dsimp only
  rw[az]
  exact Un (h1.imp id fun h=>by cases L with | nil=>rfl | cons a l=>simp[aq] at h) h3
 ·cases hs
def rq:List DV->Option aS
 | [.sl sz rows k]=>some ⟨Yy sz rows,fun n=>(.own n 0 rows.length,[some (.arr 1 rows)])⟩
 | _=>none
theorem LJ (sz:Nat)(rows:List (List DV))(k:SK):rq [.sl sz rows k]=some ⟨Yy sz rows,fun n=>(.own n 0 rows.length,[some (.arr 1 rows)])⟩:=ak _
theorem O9 (args:List DV)(s:aS)(hs:rq args=some s)(hp:s.pre):av PG 56 args fun n r os=>r=(s.res n).1/\os=(s.res n).2:=by
 unfold rq at hs
 split at hs
 ·obtain rfl:=sj hs
  obtain ⟨h1,⟨L,rfl⟩,h3⟩:=hp
  rw[aY] at h3
  dsimp only
  rw[aY]
  exact Ui (h1.imp id fun h=>by cases L with | nil=>rfl | cons a l=>simp[bg] at h) h3
 ·cases hs
theorem Um (hs:sz=1\/l=[])(hk:inK .i64 l)(hp:l.length<=1000000):av PG 57 [.sl sz (af .i64 l) k] fun n r os=>r=.sl 1 (af .i64 l) .any/\os=[]:=by
 refine av.pS (i:=0) rfl (fun h=>?_) ?_
 ·have hn:l=[]:=by simpa [af] using h
  subst hn
  refine av.iR (res:=fun n=>(.sl 1 [] .any,[])) FOk.nil lT (by simp[gL]) fun n=>?_
  unfold gL
  dsimp only
  simp -implicitDefEqProofs -dsimp only[vcS,↓vcQ,simprocAttr]
 ·refine av.iR (res:=fun n=>(.sl 1 (af .i64 l) .any,[])) FOk.nil lT (by simp[gL]) fun n=>?_
  unfold gL
  dsimp only
  have hs':sz=1\/af .i64 l=[]:=hs.imp id fun h=>by simp[h,af]
  simp -implicitDefEqProofs -dsimp only[List.take_length,vcS,↓vcQ,simprocAttr]
  exact ⟨hs',by omega,by omega⟩
def oI:List DV->Option aS
 | [a]=>some ⟨aD .i64 a/\(aG a).length<=1000000,fun n=>(.sl 1 (af .i64 (aG a)) .any,[])⟩
 | _=>none
theorem I6 (a:DV):oI [a]=some ⟨aD .i64 a/\(aG a).length<=1000000,fun n=>(.sl 1 (af .i64 (aG a)) .any,[])⟩:=ak _
theorem KR (args:List DV)(s:aS)(hs:oI args=some s)(hp:s.pre):av PG 57 args fun n r os=>r=(s.res n).1/\os=(s.res n).2:=by
 unfold oI at hs
 split at hs
 ·obtain rfl:=sj hs
  obtain ⟨h1,h2⟩:=hp
  obtain ⟨sz,k,e,h3,h4⟩:=aC h1
  have:=Um (k:=k) h3 h4 h2
  rw[<-e] at this
  exact this
 ·cases hs
theorem Uk (hs:sz=1\/l=[])(hk:inK .u8 l)(hp:l.length<=1000000):av PG 58 [.sl sz (af .u8 l) k] fun n r os=>r=.sl 1 (af .u8 l) .any/\os=[]:=by
 refine av.pS (i:=0) rfl (fun h=>?_) ?_
 ·have hn:l=[]:=by simpa [af] using h
  subst hn
  refine av.iR (res:=fun n=>(.sl 1 [] .any,[])) FOk.nil lU (by simp[gN]) fun n=>?_
  unfold gN
  dsimp only
  simp -implicitDefEqProofs -dsimp only[vcS,↓vcQ,simprocAttr]
 ·refine av.iR (res:=fun n=>(.sl 1 (af .u8 l) .any,[])) FOk.nil lU (by simp[gN]) fun n=>?_
  unfold gN
  dsimp only
  have hs':sz=1\/af .u8 l=[]:=hs.imp id fun h=>by simp[h,af]
  simp -implicitDefEqProofs -dsimp only[List.take_length,vcS,↓vcQ,simprocAttr]
  exact ⟨hs',by omega,by omega⟩
def oH:List DV->Option aS
 | [a]=>some ⟨aD .u8 a/\(aG a).length<=1000000,fun n=>(.sl 1 (af .u8 (aG a)) .any,[])⟩
 | _=>none
theorem I5 (a:DV):oH [a]=some ⟨aD .u8 a/\(aG a).length<=1000000,fun n=>(.sl 1 (af .u8 (aG a)) .any,[])⟩:=ak _
theorem KO (args:List DV)(s:aS)(hs:oH args=some s)(hp:s.pre):av PG 58 args fun n r os=>r=(s.res n).1/\os=(s.res n).2:=by
 unfold oH at hs
 split at hs
 ·obtain rfl:=sj hs
  obtain ⟨h1,h2⟩:=hp
  obtain ⟨sz,k,e,h3,h4⟩:=aC h1
  have:=Uk (k:=k) h3 h4 h2
  rw[<-e] at this
  exact this
 ·cases hs
def Ca:FL:=(43,.o oJ)::(56,.o rq)::(57,.o oI)::[(58,.o oH)]
theorem zp:FOk PG (tab Ca):=FOk.cons (FOk.cons (FOk.cons (FOk.cons FOk.nil KO) KR) O9) Pd
theorem Fh (args:List DV):tab Ca 43 args=(oJ args).map .o:=ak _
theorem ach (args:List DV):tab Ca 56 args=(rq args).map .o:=ak _
theorem acj (args:List DV):tab Ca 57 args=(oI args).map .o:=ak _
theorem aci (args:List DV):tab Ca 58 args=(oH args).map .o:=ak _
def scD (s : Sc) (z1 z2 z3 : Nat) (k1 k2 k3 : SK) (m pr : Int) (d1 d2 d3 : DV) : List DV :=
  [.int .i64 s.rows, .int .i64 s.aa, .sl z1 (aq s.cells) k1, .int .i64 s.y, .int .i64 s.x, .bool s.wrap, .int .u16 s.attr, .int .i64 s.top, .int .i64 s.bot, .sl z2 (bg s.aP) k2,
   .int .i64 s.sy, .int .i64 s.sx, .int .u16 s.eg, .bool s.auto, .bool s.shown, .bool s.alt, .sl z3 (aq s.other) k3, .int .i64 s.oy, .int .i64 s.ox, .int .i64 m, .int .u8 pr, d1, d2, d3]
structure ScV (s:Sc) (p:Pa) (z1 z2 z3:Nat) (m pr:Int) (d1 d2 d3:DV):Prop where
 z1:z1=3
 z2:z2=1
 z3:z3=3\/s.other=[]
 pa:xH p m pr d1 d2 d3
def aJ (s:Sc)(p:Pa)(v:DV):Prop:=∃z1 z2 z3 k1 k2 k3 m pr d1 d2 d3,ScV s p z1 z2 z3 m pr d1 d2 d3/\v=.agg (scD s z1 z2 z3 k1 k2 k3 m pr d1 d2 d3)
theorem No {z1 z2 z3 : Nat} {k1 k2 k3 : SK} {m pr : Int} {d1 d2 d3 : DV} {K : DV -> ay -> Prop} (ok : aR s) (hv : ScV s p z1 z2 z3 m pr d1 d2 d3) (pk : cS p)
    (h : ∀ T' q tq oq e1 e2 e3, T.length <= q -> T.length <= tq -> T.length <= oq -> q ≠ tq -> oq ≠ q -> oq ≠ tq -> T'[q]? = some (some (.arr 3 (aq s.cells))) -> T'[tq]? = some (some (.arr 1 (bg s.aP))) -> T'[oq]? = some (some (.arr 3 (aq s.other))) ->
      xH p m pr e1 e2 e3 -> ax T T' [] -> K (.agg (aN s q tq (.own oq 0 s.other.length) m pr e1 e2 e3)) T') :
    aj PG 32 [.agg (scD s z1 z2 z3 k1 k2 k3 m pr d1 d2 d3)] T K := by
  have hl := ok.g.lim
  have hc := ok.g.c
  have ht := ok.aP
  have hol : s.other.length <= 1000000 := by
    cases ha : s.alt with
    | true => exact (ok.alt ha).lim.1
    | false => rw[(ok.non ha).1]; simp
  have c1 : As z1 (aq s.cells) := sI (.inl hv.z1) hl.1
  have c3 : As z3 (aq s.other) := sI hv.z3 hol
  have c2 : Yy z2 (bg s.aP) := Yx (.inl hv.z2) (by omega)
  have pa := hv.pa
  obtain ⟨sa, ka, ea, ha1, ha2⟩ := aC pa.i1
  obtain ⟨sb, kb, eb, hb1, hb2⟩ := aC pa.i2
  obtain ⟨sc, kc, ec, hc1, hc2⟩ := aC pa.i3
  rw[pa.e1] at ea ha1 ha2
  rw[pa.e2] at eb hb1 hb2
  rw[pa.e3] at ec hc1 hc2
  obtain ⟨j1, j2, j3, j4, j5, j6, j7⟩ := pk
  have l1 : p.P.length <= 1000000 := by omega
  have l2 : p.I.length <= 1000000 := by omega
  have l3 : p.U.length <= 1000000 := by omega
  subst ea eb ec
  have i1 : aD .i64 (.sl sa (af .i64 p.P) ka) := pa.i1
  have i2 : aD .u8 (.sl sb (af .u8 p.I) kb) := pa.i2
  have i3 : aD .u8 (.sl sc (af .u8 p.U) kc) := pa.i3
  unfold scD
  refine aj.aE zp BN (by simp[pg]) ?_
  unfold pg
  dsimp only
  simp -implicitDefEqProofs -dsimp only[ah, Fh, ach, acj, aci, mV, LJ, I6, I5, c1, c2, c3, i1, i2, i3, aL, l1, l2, l3, az, aY, List.take_length, vcS, ↓vcQ, simprocAttr]
  refine h _ (T.length + 2) (T.length + 4) (T.length + 3) (.sl 1 (af .i64 p.P) .any) (.sl 1 (af .u8 p.I) .any) (.sl 1 (af .u8 p.U) .any) (by omega) (by omega) (by omega) (by omega) (by omega) (by omega) (bl _ _ 2) (bl _ _ 4) (bl _ _ 3) ?_ (ax.app _ _ _)
  exact { m := pa.m, pr := pa.pr, i1 := aQ (.inl rfl) ha2, i2 := aQ (.inl rfl) hb2, i3 := aQ (.inl rfl) hc2, e1 := aL .., e2 := aL .., e3 := aL .. }
theorem jD {z1 z2 z3:Nat}{k1 k2 k3:SK}{m pr:Int}{d1 d2 d3:DV}{K:DV->ay->Prop}(ok:aR s)(o1:DV.one d1=true)(o2:DV.one d2=true)(o3:DV.one d3=true)(h:∀T',ax T T' []->K (.bool true) T') :
  aj PG 24 [.agg (scD s z1 z2 z3 k1 k2 k3 m pr d1 d2 d3)] T K:=by
 have hr:=ok.g.r
 have hc:=ok.g.c
 have a1:1<=(s.rows:Int):=by omega
 have a2:(s.rows:Int)<=1000:=by omega
 have a3:1<=(s.aa:Int):=by omega
 have a4:(s.aa:Int)<=1000:=by omega
 unfold scD
 refine aj.aE FOk.nil Es (by simp[rY]) ?_
 unfold rY
 dsimp only
 simp -implicitDefEqProofs -dsimp only[ah,o1,o2,o3,a1,a2,a3,a4,vcS,↓vcQ,simprocAttr]
 exact h _ (ax.app _ _ _)
def Ba (a:Ac):Prop:=(0<=a.r/\a.r<=2097151)/\(osL a.ps).length<=1000/\∀k∈osL a.ps,0<=k/\k<=65535
theorem ZT:∀a∈([]:List Ac),Ba a:=fun a h=>by cases h
theorem Fg {a:Ac}(h:Ba a):∀x∈ [a],Ba x:=fun x hx=>by simp at hx;subst hx;exact h
theorem QA {b:Int}(hp:cS p):∀a∈(jU p b).2,Ba a:=Fg ⟨⟨Int.le_refl _,show (0:Int)<=2097151 by decide⟩,hp.2.2.2.1,hp.2.2.2.2.2.2⟩
theorem Yv {c:Prop} [Decidable c] {x y:Pa × List Ac}(h1:∀a∈x.2,Ba a)(h2:∀a∈y.2,Ba a):∀a∈(if c then x else y).2,Ba a:=by split <;> assumption
theorem ac0 (k b pv:Int):Ba ⟨k,0,b,pv,none,none⟩:=⟨⟨Int.le_refl _,show (0:Int)<=2097151 by decide⟩,by simp[osL],by simp[osL]⟩
theorem CI {b:Int}(hp:cS p)(hb:0<=b/\b<=255):∀a∈(eL p b).2,Ba a:=by
 obtain ⟨j1,j2,j3,j4,j5,j6,j7⟩:=id hp
 have hg:∀a∈(iS p b).2,Ba a:=fun a ha=>by
  unfold iS at ha
  simp only[List.mem_map] at ha
  obtain ⟨r,hr,rfl⟩:=ha
  exact ⟨yR j3 hb (by omega) r hr,by simp[osL],by simp[osL]⟩
 unfold eL jk jC gX jd
 repeat' (first | exact hg | exact QA hp | exact ZT | exact Fg (ac0 _ _ _) | exact Fg ⟨⟨Int.le_refl _,show (0:Int)<=2097151 by decide⟩,by simp[osL],by simp[osL]⟩ | apply Yv)
theorem CL {b:Int}(hp:cS p)(hb:0<=b/\b<=255):∀a∈(dy p b).2,Ba a:=by
 unfold dy
 split
 ·obtain ⟨h1,h2,h3,h4,h5,h6,h7⟩:=hp
  have:=CI (p:={ p with U:=[]}) (b:=b) ⟨h1,h2,fQ _,h4,h5,by simp,h7⟩ hb
  intro a ha
  rcases List.mem_cons.1 ha with rfl | ha
  ·exact ⟨by decide,by simp[osL],by simp[osL]⟩
  ·exact this a ha
 ·exact CI hp hb
def ug (s:Sc)(a:Ac):Sc:=doF s a.k a.r a.b a.p (osL a.ps) (osL a.is)
theorem wm:∀{l:List Ac} {s:Sc},aR s->aR (l.foldl ug s)
 | [],s,h=>h
 | a::l,s,h=>wm (l:=l) (KJ h _ _ _ _ _ _)
theorem DN {l:List Ac}{i:Nat}{a:Ac}(hi:l[i]?=some a):(l.take (i+1)).foldl ug s=ug ((l.take i).foldl ug s) a:=by
 have hlt:=(List.getElem?_eq_some_iff.1 hi).1
 have e:l[i]=a:=(List.getElem?_eq_some_iff.1 hi).2
 rw[List.take_succ_eq_append_getElem hlt,List.foldl_append,e]
 rfl
def eJ (x:Sc × Pa)(c:Int):Sc × Pa:=((dy x.2 c).2.foldl ug x.1,(dy x.2 c).1)
theorem E5:∀{l:List Int} {x:Sc × Pa},aR x.1->cS x.2->(∀c∈l,0<=c/\c<=255)->aR (l.foldl eJ x).1/\cS (l.foldl eJ x).2
 | [],x,h,p,_=>⟨h,p⟩
 | c::l,x,h,p,hb=>E5 (l:=l) (x:=eJ x c) (wm h) (rD p (hb c (by simp))) fun d hd=>hb d (by simp[hd])
theorem Dy {x:Sc × Pa}{i:Nat}(hi:i<l.length):(l.take (i+1)).foldl eJ x=eJ ((l.take i).foldl eJ x) (l.getD i 0):=by
 rw[List.take_succ_eq_append_getElem hi,List.foldl_append]
 simp[List.getD_eq_getElem?_getD,hi]
theorem eK.Vm {rows:List (List DV)}{cs:List DV}(h:T[q]?=some (some (.arr sz rows))):eK ⟨[(0,.agg cs)],T⟩ ⟨[(0,.agg (cs.map (DV.iA q sz rows)))],T.set q none⟩:=by
 refine .frz q sz rows ⟨h,fun t=>?_,by simp,fun k ob' hk=>?_⟩ (.refl _)
 ·rw[jt,jt]
  split
  ·exact .inr rfl
  ·exact .inl rfl
 ·rw[getElem?_set] at hk
  by_cases e:q=k
  ·rw[if_pos e] at hk;split at hk <;> simp at hk
  ·rw[if_neg e] at hk;exact ⟨fun e'=>e e'.symm,ob',hk,B3.refl (fr0.refl _ _ _) _⟩
theorem vV (q sz n:Nat)(rows:List (List DV))(h:n=rows.length):DV.iA q sz rows (.own q 0 n)=.sl sz rows .any:=by
 subst h
 simp[DV.iA]
theorem TK {q' n:Nat}(rows:List (List DV))(h:q'≠q):DV.iA q sz rows (.own q' 0 n)=.own q' 0 n:=by
 simp[DV.iA,h]
theorem TJ (q sz:Nat)(rows r2:List (List DV))(s2:Nat)(k:SK):DV.iA q sz rows (.sl s2 r2 k)=.sl s2 r2 k:=rfl
theorem HL (q sz:Nat)(rows:List (List DV))(k:IntKind)(n:Int):DV.iA q sz rows (.int k n)=.int k n:=rfl
theorem AF (q sz:Nat)(rows:List (List DV))(b:Bool):DV.iA q sz rows (.bool b)=.bool b:=rfl
theorem gT {rows:List (List DV)}{kd:IntKind}{d:DV}(h:aD kd d):DV.iA q sz rows d=d:=by
 obtain ⟨a,b,e,_⟩:=aC h
 rw[e];rfl
theorem eK.sc {n:Nat}{T0:ay}{o tq:Nat}{od:DV}{m pr:Int}{d1 d2 d3:DV}(k0:ax T0 T [])(pa:xH p m pr d1 d2 d3)(t:jT T0 T o q tq s od m pr d1 d2 d3)(ok:aR s) :
  ∃v T',eK ⟨[(0,.agg (aN s q tq od m pr d1 d2 d3))],T⟩ ⟨[(0,v)],T'⟩/\aJ s p v/\ax T0 T' []/\T'.length=T.length:=by
 have h1:=eK.Vm (cs:=aN s q tq od m pr d1 d2 d3) t.cells
 have h2:=eK.Vm (cs:=(aN s q tq od m pr d1 d2 d3).map (DV.iA q 3 (aq s.cells))) (bn t.aP none t.qt.symm)
 have k2:ax T0 ((T.set q none).set tq none) []:=(k0.put t.nq none).put t.nt none
 have f1:∀x:DV,∀k n,x=.int k n->DV.iA q 3 (aq s.cells) x=x:=fun x k n e=>by subst e;rfl
 rcases t.oth with ⟨oq,rfl,ho,n1,n2,n3,n4⟩ | ⟨ha,z3,k3,rfl⟩
 ·have h3:=eK.Vm (cs:=((aN s q tq (.own oq 0 s.other.length) m pr d1 d2 d3).map (DV.iA q 3 (aq s.cells))).map (DV.iA tq 1 (bg s.aP))) (bn (bn ho none n2) none n3)
  refine ⟨_,_,h1.trans (h2.trans h3),⟨3,1,3,.any,.any,.any,m,pr,d1,d2,d3,⟨rfl,rfl,.inl rfl,pa⟩, ?_⟩,k2.put n4 none,by simp⟩
  simp only[aN,scD,List.map_cons,List.map_nil,vV q 3 _ _ (az s.cells).symm,TK _ t.qt.symm,TK _ n2,TJ,vV tq 1 _ _ (aY s.aP).symm,TK _ n3,vV oq 3 _ _ (az s.other).symm,gT pa.i1,gT pa.i2,gT pa.i3,HL,AF]
 ·refine ⟨_,_,h1.trans h2,⟨3,1,z3,.any,.any,k3,m,pr,d1,d2,d3,⟨rfl,rfl,.inr (ok.non ha).1,pa⟩, ?_⟩,k2,by simp⟩
  simp only[aN,scD,List.map_cons,List.map_nil,vV q 3 _ _ (az s.cells).symm,TK _ t.qt.symm,TJ,vV tq 1 _ _ (aY s.aP).symm,gT pa.i1,gT pa.i2,gT pa.i3,(ok.non ha).1,AV,HL,AF]
def x5:RC:=(SR [BT 42 .lss 41 40] [4,5,8,23,24,25,39,40,41,42] (.seq (.cond (.t 42) .skip (.ext 2)) (.seq (.blk 3 (SR [OP 43 (.aT 6 (.t 39) (.t 41)),LT 44 6 43,OP 11 (.alloc [.int .i64 0,.int .i32 0,.int .u8 0,.int .u8 0,.sl 0 [] .nil,.sl 0 [] .nil]),SA 6 11 44] [4,5,8,11,23,24,25,39,40,41] (.reg [MV 45 5,LT 46 6 11,OP 47 (.call 34 [.t 45,.t 46])] 0 [4,5,8,23,24,25,39,40,41]))) (.reg [BI 48 .add 41 1,MV 41 48] 0 [4,5,8,23,24,25,39,40,41]))))
def x4:RC:=(SR [BT 26 .lss 25 24] [4,5,23,24,25,26] (.seq (.cond (.t 26) .skip (.ext 0)) (.seq (.blk 1 (SR [OP 27 (.aT 1 (.t 23) (.t 25)),LD 28 27,MV 7 28] [4,5,7,23,24,25] (SR [MV 30 5,OP 31 (.aF (.t 30)),FA 32 0 31,FA 33 19 32,LT 34 5 33,MV 35 7,OP 36 (.call 33 [.t 34,.t 35]),MV 29 36,OP 37 (.ext (.t 29) 0),OP 38 (.ext (.t 29) 1),OP 8 (.alloc [.int .i64 0,.int .u8 0,.sl 0 [] .nil,.sl 0 [] .nil,.sl 0 [] .nil]),SA 5 8 37,MV 9 38] [4,5,8,9,23,24,25] (.seq (SR [MV 39 9,OP 40 (.len (.t 39)),OP 41 (.mov (.c (.int .i64 0)))] [4,5,8,23,24,25,39,40,41] (.blk 2 (.loop x5))) (.reg [MV 49 5,LT 50 5 8,OP 51 (.aF (.t 49)),FA 52 0 51,FA 53 19 52,SA 5 53 50] 0 [4,5,23,24,25]))))) (.reg [BI 54 .add 25 1,MV 25 54] 0 [4,5,23,24,25]))))
def vc:RFn:=⟨2,59,(SR [OP 2 (.box 24 (.t 0)),OP 4 (.alloc ZS)] [1,2,4] (SR [LT 12 24 2,OP 13 (.call 32 [.t 12]),OP 14 (.build [.int .i64 0,.int .i64 0,.sl 0 [] .nil,.int .i64 0,.int .i64 0,.bool false,.int .u16 0,.int .i64 0,.int .i64 0,.sl 0 [] .nil,.int .i64 0,.int .i64 0,.int .u16 0,.bool false,.bool false,.bool false,.sl 0 [] .nil,.int .i64 0,.int .i64 0,.int .i64 0,.int .u8 0,.sl 0 [] .nil,.sl 0 [] .nil,.sl 0 [] .nil] [(0,(24,(.t 13)))]),OP 15 (.box 24 (.t 14)),MV 5 15] [1,2,4,5] (.seq (SR [LT 16 24 2,OP 17 (.call 24 [.t 16]),OP 18 (.un .not (.t 17))] [1,4,5,18] (.cond (.t 18) (SR [MV 19 5,OP 20 (.aF (.t 19)),FA 21 0 20,LT 22 24 21,SA 24 4 22] [4] .ret) .skip)) (.seq (SR [MV 23 1,OP 24 (.len (.t 23)),OP 25 (.mov (.c (.int .i64 0)))] [4,5,23,24,25] (.blk 0 (.loop x4))) (SR [MV 55 5,OP 56 (.aF (.t 55)),FA 57 0 56,LT 58 24 57,SA 24 4 58] [4] .ret))))),[.c 4 true 24]⟩
theorem GJ:aK PG.P (aA PG.P 13 vc) 13=some vc:=by kernel_rfl
theorem Ls (args:List DV):tab T27 32 args=none:=ak _
theorem Fy (args:List DV):tab T27 24 args=none:=ak _
theorem wq (args:List DV):tab T27 34 args=none:=ak _
def lp:List DV:=[.int .i64 0,.int .i64 0,.sl 0 [] .nil,.int .i64 0,.int .i64 0,.bool false,.int .u16 0,.int .i64 0,.int .i64 0,.sl 0 [] .nil,.int .i64 0,.int .i64 0,.int .u16 0,.bool false,.bool false,.bool false,.sl 0 [] .nil,.int .i64 0,.int .i64 0,.int .i64 0,.int .u8 0,.sl 0 [] .nil,.sl 0 [] .nil,.sl 0 [] .nil]
theorem L3 {v:DV}{sk:SK}{K:DV->ay->Prop}(ok:aR s)(pk:cS p)(hv:aJ s p v)(hs:sz=1\/l=[])(hk:inK .u8 l)(hl:l.length<=1000000)
  (h:∀T' v',ax T T' []->aJ (l.foldl eJ (s,p)).1 (l.foldl eJ (s,p)).2 v'->K v' T'):aj PG 13 [v,.sl sz (af .u8 l) sk] T K:=by
 obtain ⟨z1,z2,z3,k1,k2,k3,m,pr,d1,d2,d3,sv,rfl⟩:=hv
 have o1:DV.one d1=true:=by obtain ⟨a,b,e,_⟩:=aC sv.pa.i1;rw[e];rfl
 have o2:DV.one d2=true:=by obtain ⟨a,b,e,_⟩:=aC sv.pa.i2;rw[e];rfl
 have o3:DV.one d3=true:=by obtain ⟨a,b,e,_⟩:=aC sv.pa.i3;rw[e];rfl
 refine aj.fq mN GJ (by simp[vc]) ?_
 unfold vc
 have esc:scD s z1 z2 z3 k1 k2 k3 m pr d1 d2 d3=[.int .i64 s.rows,.int .i64 s.aa,.sl z1 (aq s.cells) k1,.int .i64 s.y,.int .i64 s.x,.bool s.wrap,.int .u16 s.attr,.int .i64 s.top,.int .i64 s.bot,.sl z2 (bg s.aP) k2,.int .i64 s.sy,.int .i64 s.sx,.int .u16 s.eg,.bool s.auto,.bool s.shown,.bool s.alt,.sl z3 (aq s.other) k3,.int .i64 s.oy,.int .i64 s.ox,.int .i64 m,.int .u8 pr,d1,d2,d3]:=rfl
 dsimp only
 rw[esc]
 simp -implicitDefEqProofs -dsimp only[ah,Ls,Fy,wq,o1,o2,o3,vcS,↓vcQ,simprocAttr]
 refine No ok sv pk fun T1 q tq oq e1 e2 e3 g1 g2 g3 g4 g5 g6 c1 c2 c3 pa k=>?_
 have y1:DV.one e1=true:=by obtain ⟨a,b,e,_⟩:=aC pa.i1;rw[e];rfl
 have y2:DV.one e2=true:=by obtain ⟨a,b,e,_⟩:=aC pa.i2;rw[e];rfl
 have y3:DV.one e3=true:=by obtain ⟨a,b,e,_⟩:=aC pa.i3;rw[e];rfl
 unfold aN
 have hb0:=k.at (aZ T [_] (some (Ob.box _))) (by simp)
 simp -implicitDefEqProofs -dsimp only[ah,ai hb0,Ls,Fy,wq,o1,o2,o3,y1,y2,y3,vcS,↓vcQ,simprocAttr]
 refine jD ok o1 o2 o3 fun T2 k2=>?_
 simp -implicitDefEqProofs -dsimp only[ah,Ls,Fy,wq,o1,o2,o3,y1,y2,y3,vcS,↓vcQ,simprocAttr]
 have lk:=k.1
 have lk2:=k2.1
 simp only[List.length_append,List.length_cons,List.length_nil] at lk lk2 g1 g2 g3
 have q1:=eI c1
 have q2:=eI c2
 have q3:=eI c3
 have hb4:=k2.at (hO (k.at (bl T [_,some (Ob.box _)] 1) (by simp)) _) (by simp)
 have QO:aB _ T2 T1.length s p:=.mk ((k.dU _).new k2 (by simp)) pa
  ⟨k2.at (aZ T1 [] _) (by simp),k2.at (hO c1 _) (by simp),k2.at (hO c2 _) (by simp),.inl ⟨oq,rfl,k2.at (hO c3 _) (by simp),by omega,by omega,by omega,Dd.ge (by simp;omega)⟩,by omega,by omega,by omega,Dd.ge (by simp;omega),Dd.ge (by simp;omega),Dd.ge (by simp;omega)⟩
 obtain ⟨B,kB,lB,zB,QO⟩:∃B:ay,ax T B []/\B.length=T.length+2/\B[T.length+1]?=some (some (.box lp))/\aB B T2 T1.length s p:=⟨_,ax.app _ _ _,by simp,bl _ _ 1,QO⟩
 clear hb4 hb0
 refine bk.inv mN (S:=fun σ:Nat × ay=>⟨[(4,.ptr (T.length+1) 0 0),(5,.ptr T1.length 0 0),(23,.sl sz (af .u8 l) sk),(24,.int .i64 l.length),(25,.int .i64 σ.1)],σ.2⟩)
  (I:=fun σ=>σ.1<=l.length/\aB B σ.2 T1.length ((l.take σ.1).foldl eJ (s,p)).1 ((l.take σ.1).foldl eJ (s,p)).2) (μ:=fun σ=>l.length-σ.1) (0,T2) ⟨by simp,QO⟩ ?_ ?_
 ·simp -implicitDefEqProofs -dsimp only[an,vcS,↓vcQ,simprocAttr]
 ·intro ⟨i,A⟩ ⟨h1,h2⟩
  dsimp only at h1 h2 ⊢
  have hby:∀c∈l,0<=c/\c<=255:=fun c hc=>by have:=hk.2 c hc;have:=WD;omega
  have fo:=E5 (l:=l.take i) (x:=(s,p)) ok pk fun c hc=>hby c (List.mem_of_mem_take hc)
  have hst:=fun hi=>Dy (x:=(s,p)) (i:=i) (l:=l) hi
  have eV:l.length<=i->(l.take i).foldl eJ (s,p)=l.foldl eJ (s,p):=fun hh=>by rw[List.take_of_length_le hh]
  generalize (l.take i).foldl eJ (s,p)=x at *
  obtain ⟨x1,x2⟩:=x
  dsimp only at h2 fo hst
  obtain ⟨k4,q',tq',od',m',pr',f1,f2,f3,pa',t'⟩:=id h2
  have hbt:=t'.box
  unfold aN at hbt
  have w1:IntKind.i64.wrap ((i:Int)+1)=((i+1:Nat):Int):=by rw[aO (by omega) (by omega)];omega
  unfold x4
  rcases Nat.lt_or_ge i l.length with hlt | hge
  ·have hii:(i:Int)<l.length:=by omega
   have i0:(0:Int)<=i:=by omega
   have hsz:sz=1:=by rcases hs with h | h;exact h;subst h;simp at hlt
   subst hsz
   have hg:(af .u8 l)[i]?=some [.int .u8 (l.getD i 0)]:=by simp[af,hlt]
   have hlr:(af .u8 l).length=l.length:=by simp[af]
   have hb:=hby (l.getD i 0) (by simp[List.getD_eq_getElem?_getD,hlt])
   have hst:=hst hlt
   generalize l.getD i 0=c at *
   have hpe:(⟨m',pr',aG f1,aG f2,aG f3⟩:Pa)=x2:=by rw[pa'.m,pa'.pr,pa'.e1,pa'.e2,pa'.e3]
   have i1:=pa'.i1
   have i2:=pa'.i2
   have i3:=pa'.i3
   have pk2:=fo.2
   have v1:DV.one f1=true:=by obtain ⟨a,b,e,_⟩:=aC i1;rw[e];rfl
   have v2:DV.one f2=true:=by obtain ⟨a,b,e,_⟩:=aC i2;rw[e];rfl
   have v3:DV.one f3=true:=by obtain ⟨a,b,e,_⟩:=aC i3;rw[e];rfl
   simp -implicitDefEqProofs -dsimp only[ah,ai hbt,ID,DQ,hpe,i1,i2,i3,pk2,hb,wZ,hii,i0,hg,hlr,Nat.zero_add,v1,v2,v3,iZ,vcS,↓vcQ,simprocAttr]
   have TA:=CL pk2 hb
   have hpk:=rD pk2 hb
   have Tq:(l.take (i+1)).foldl eJ (s,p)=((dy x2 c).2.foldl ug x1,(dy x2 c).1):=hst
   have hlen:=CJ x2 c
   generalize dy x2 c=st at *
   obtain ⟨y,iY⟩:=st
   dsimp only at TA hpk Tq hlen ⊢
   obtain ⟨B2,tB,kB2,lB2,hB2⟩:=h2.tight [some (.box [.int .i64 y.m,.int .u8 y.pr,.sl 1 (af .i64 y.P) .any,.sl 1 (af .u8 y.I) .any,.sl 1 (af .u8 y.U) .any])]
   have hnb:=hB2 A.length _ (Nat.le_refl _) (aZ _ _ _)
   have hal:(cz iY).length=iY.length:=iZ _
   refine bk.inv mN (S:=fun σ:Nat × ay=>⟨[(4,.ptr (T.length+1) 0 0),(5,.ptr T1.length 0 0),(8,.ptr A.length 0 0),(23,.sl 1 (af .u8 l) sk),(24,.int .i64 l.length),(25,.int .i64 i),(39,.sl 6 (cz iY) .any),(40,.int .i64 iY.length),(41,.int .i64 σ.1)],σ.2⟩)
    (I:=fun σ=>σ.1<=iY.length/\∃pp,aB B2 σ.2 T1.length ((iY.take σ.1).foldl ug x1) pp) (μ:=fun σ=>iY.length-σ.1) (0,A++ [some (.box [.int .i64 y.m,.int .u8 y.pr,.sl 1 (af .i64 y.P) .any,.sl 1 (af .u8 y.I) .any,.sl 1 (af .u8 y.U) .any])]) ⟨by simp,_,tB⟩ ?_ ?_
   ·simp -implicitDefEqProofs -dsimp only[an,vcS,↓vcQ,simprocAttr]
   ·intro ⟨j,A2⟩ ⟨g1,pp,g2⟩
    dsimp only at g1 g2 ⊢
    have aok:=wm (l:=iY.take j) fo.1
    have aeo:=g2.1.at hnb (by simp)
    have w2:IntKind.i64.wrap ((j:Int)+1)=((j+1:Nat):Int):=by rw[aO (by omega) (by omega)];omega
    unfold x5
    rcases Nat.lt_or_ge j iY.length with jlt | jge
    ·obtain ⟨a,ha⟩:∃a,iY[j]?=some a:=⟨_,List.getElem?_eq_getElem jlt⟩
     have hao:=TA a (List.mem_of_getElem? ha)
     have jj:(j:Int)<iY.length:=by omega
     have j0:(0:Int)<=j:=by omega
     obtain ⟨sa,ka,ea,hsa⟩:∃sa ka,oSl .i64 a.ps=.sl sa (af .i64 (osL a.ps)) ka/\(sa=1\/osL a.ps=[]):=by
      cases a.ps with
      | none=>exact ⟨0,.nil,rfl,.inr rfl⟩
      | some l=>exact ⟨1,.any,rfl,.inl rfl⟩
     obtain ⟨sb,kb,eb⟩:∃sb kb,oSl .u8 a.is=.sl sb (af .u8 (osL a.is)) kb:=by
      cases a.is with
      | none=>exact ⟨0,.nil,rfl⟩
      | some l=>exact ⟨1,.any,rfl⟩
     have hrow:(cz iY)[j]?=some [.int .i64 a.k,.int .i32 a.r,.int .u8 a.b,.int .u8 a.p,.sl sa (af .i64 (osL a.ps)) ka,.sl sb (af .u8 (osL a.is)) kb]:=by
      rw[<-ea,<-eb]
      simp[cz,yt,ha]
     simp -implicitDefEqProofs -dsimp only[ah,wq,hrow,hal,jj,j0,Nat.zero_add,vcS,↓vcQ,simprocAttr]
     refine acQ (T0:=B2) (s:=(iY.take j).foldl ug x1) (p:=pp) ⟨by have:=hao.1;omega,by have:=hao.1;omega⟩ hsa (by have:=hao.2.1;omega) hao.2.2 aok (g2.keep (ax.app _ _ _)) fun T' lt t2=>?_
     simp -implicitDefEqProofs -dsimp only[ah,wq,w2,an,vcS,↓vcQ,simprocAttr]
     exact ⟨(j+1,T'),⟨rfl,aH _⟩,⟨jlt,_,by dsimp only;rw[DN ha];exact t2⟩,by dsimp only;omega⟩
    ·have jj:¬(j:Int)<iY.length:=by omega
     obtain rfl:j=iY.length:=by omega
     rw[List.take_length] at g2
     obtain ⟨k5,q5,tq5,od5,m5,pr5,u1,u2,u3,pa5,t5⟩:=g2
     have hb5:=t5.box
     unfold aN at hb5
     simp -implicitDefEqProofs -dsimp only[ah,ai hb5,ai aeo,jj,w1,an,vcS,↓vcQ,simprocAttr]
     refine ⟨(i+1,A2.set T1.length (some (.box (aN (iY.foldl ug x1) q5 tq5 od5 y.m y.pr (.sl 1 (af .i64 y.P) .any) (.sl 1 (af .u8 y.I) .any) (.sl 1 (af .u8 y.U) .any))))),⟨rfl,aH _⟩,⟨hlt, ?_⟩,by dsimp only;omega⟩
     dsimp only
     rw[Tq]
     obtain ⟨o1',o2',o3',_⟩:=hpk
     exact (aB.mk (k5.put t5.no _) (p:=y) { m:=rfl,pr:=rfl,i1:=aQ (.inl rfl) o1',i2:=aQ (.inl rfl) o2',i3:=aQ (.inl rfl) o3',e1:=aL ..,e2:=aL ..,e3:=aL ..} (t5.put rfl rfl rfl rfl rfl)).base kB2
  ·have hii:¬(i:Int)<l.length:=by omega
   obtain rfl:i=l.length:=by omega
   have hz:=k4.at zB (by simp)
   unfold lp at hz
   have v1:DV.one f1=true:=by obtain ⟨a,b,e,_⟩:=aC pa'.i1;rw[e];rfl
   have v2:DV.one f2=true:=by obtain ⟨a,b,e,_⟩:=aC pa'.i2;rw[e];rfl
   have v3:DV.one f3=true:=by obtain ⟨a,b,e,_⟩:=aC pa'.i3;rw[e];rfl
   have vo:DV.one od'=true:=by
    rcases t'.oth with ⟨oq,e,_⟩ | ⟨_,_,_,e⟩
    ·rw[e];rfl
    ·rw[e];rfl
   have kA:ax T A []:=kB.new k4 (by simp)
   have nz:∀{j},Dd B j->j≠T.length+1:=fun {j} h e=>by subst e;exact h _ zB
   have dd:∀{j},Dd B j->Dd T j:=fun h ob e=>h ob (kB.2 _ ob (by simp) e)
   have lz:Dd T (T.length+1):=Dd.ge (by omega)
   have la:=k4.1
   simp -implicitDefEqProofs -dsimp only[ah,ai hbt,ai hz,hii,v1,v2,v3,vo,an,vcS,↓vcQ,simprocAttr]
   have tz:jT T (A.set (T.length+1) (some (.box (aN x1 q' tq' od' m' pr' f1 f2 f3)))) T1.length q' tq' x1 od' m' pr' f1 f2 f3:=
    ⟨bn t'.box _ (nz t'.no),bn t'.cells _ (nz t'.nq),bn t'.aP _ (nz t'.nt),t'.oth.imp (fun ⟨oq,a,b,c,d,e,f⟩=>⟨oq,a,bn b _ (nz f),c,d,e,dd f⟩) id,t'.oq,t'.ot,t'.qt,dd t'.no,dd t'.nq,dd t'.nt⟩
   obtain ⟨v',T',hF,hv,kT,_⟩:=eK.sc (n:=0) (kA.put lz _) pa' tz fo.1
   refine ⟨by simp;omega,v',T',hF,h T' v' kT ?_⟩
   rw[<-eV (Nat.le_refl _)]
   exact hv
theorem L9 {on:Bool}:∀{ps:List Int} {s:Sc},aR s->ScW s->ScW (ps.foldl (eD on) s)
 | [],s,_,w=>w
 | k::ps,s,h,w=>L9 (ps:=ps) (Hh h k) (Yo h w k)
theorem adz (h:aR s)(w:ScW s)(k r b pv:Int)(ps is:List Int):ScW (doF s k r b pv ps is):=by
 unfold doF
 split
 ·exact RZ h w r
 split
 ·exact abW h w b
 split
 ·exact abR h w b
 split
 ·exact abY h w b ps
 split
 ·split
  ·exact L9 h w
  ·exact w
 ·exact w
theorem Vn:∀{l:List Ac} {s:Sc},aR s->ScW s->ScW (l.foldl ug s)
 | [],s,_,w=>w
 | a::l,s,h,w=>Vn (l:=l) (KJ h _ _ _ _ _ _) (adz h w _ _ _ _ _ _)
def gr (L:List Ce)(a b:Nat):List Ce:=cy L a b (List.replicate (b-a) aM)
theorem gq (hab:a<=b)(hb:b<=L.length):(gr L a b).length=L.length:=bN hab hb (by simp)
theorem jh {i:Nat}(hab:a<=b)(hb:b<=L.length):(gr L a b).getD i aM=if a<=i/\i<b then aM else L.getD i aM:=by
 unfold gr
 rw[cx hab hb (by simp),gH]
 split
 ·rw[if_neg (by omega)]
 ·split
  ·rw[if_pos (by omega)]
  ·rw[if_neg (by omega)]
theorem HS (g:bU L rows aa)(hy:y<rows)(hab:a<=b)(hb:b<=aa):kY L aa y a b=kP L aa y (fh (gr (cM L aa y) a b)):=by
 unfold kY gr
 have h1:cP (a:Int) aa=a:=by unfold cP;omega
 have h2:cP (b:Int) aa=b:=by unfold cP;omega
 rw[h1,h2,Nat.max_eq_right hab]
theorem aam (g:bU L rows aa)(hy:y<rows)(hab:a<=b)(hb:b<=aa):y*aa+a<=y*aa+b/\y*aa+b<=L.length:=by
 have:=cY (aa:=aa) hy
 have s1:=bx y aa
 rw[g.len];omega
theorem RI (g:bU L rows aa)(hy:y<rows)(hab:a<=b)(hb:b<=aa):cM (gr L (y*aa+a) (y*aa+b)) aa y=gr (cM L aa y) a b:=by
 obtain ⟨h1,h2⟩:=aam g hy hab hb
 have hl:=bG g hy
 refine ij (g.ej (gq h1 h2)) hy (by rw[gq hab (by omega),hl]) fun x hx=>?_
 rw[jh h1 h2,jh hab (by omega),cU g hy hx]
 rcases Decidable.em (a<=x/\x<b) with h | h
 ·rw[if_pos (by omega),if_pos h]
 ·rw[if_neg (by omega),if_neg h]
theorem RY {R:List Ce}(g:bU L rows aa)(hy:y<rows)(hab:a<=b)(hb:b<=aa)(hR:R.length=aa):kP (gr L (y*aa+a) (y*aa+b)) aa y R=kP L aa y R:=by
 obtain ⟨h1,h2⟩:=aam g hy hab hb
 have s1:=bx y aa
 have gM:bU (gr L (y*aa+a) (y*aa+b)) rows aa:=g.ej (gq h1 h2)
 refine dM (by rw[fO gM hy hR,fO g hy hR,gq h1 h2]) fun i _=>?_
 rw[iI gM hy hR,iI g hy hR,jh h1 h2]
 rcases Nat.lt_or_ge i (y*aa) with h | h
 ·rw[if_pos h,if_pos h,if_neg (by omega)]
 ·have h0:¬i<y*aa:=by omega
  rw[if_neg h0,if_neg h0]
  rcases Nat.lt_or_ge i ((y+1)*aa) with h3 | h3
  ·rw[if_pos h3,if_pos h3]
  ·have h4:¬i<(y+1)*aa:=by omega
   rw[if_neg h4,if_neg h4,if_neg (by omega)]
theorem Ho (g:bU L rows aa)(hy:y<rows)(hab:a<=b)(hb:b<=aa):cO (gr L (y*aa+a) (y*aa+b)) aa y=kY L aa y a b:=by
 have hl:=bG g hy
 unfold cO
 rw[RI g hy hab hb,HS g hy hab hb]
 exact RY g hy hab hb (by rw[bQ,gq hab (by omega),hl])
theorem CW {y':Nat}(g:bU L rows aa)(hy:y<rows)(hy':y'<rows)(hab:a<=b)(hb:b<=aa):cM (kY L aa y a b) aa y'=if y'=y then fh (gr (cM L aa y) a b) else cM L aa y':=by
 have hl:=bG g hy
 rw[HS g hy hab hb,mb g hy hy' (by rw[bQ,gq hab (by omega),hl])]
theorem Mv:gr L 0 L.length=List.replicate L.length aM:=by simp[gr,cy]
theorem Gs {y':Nat}(g:bU L rows aa)(hy:y<rows)(hy':y'<rows):cM (kY L aa y 0 aa) aa y'=if y'=y then List.replicate aa aM else cM L aa y':=by
 have hl:=bG g hy
 have e:=CW (a:=0) (b:=aa) g hy hy' (Nat.zero_le _) (Nat.le_refl _)
 have h:gr (cM L aa y) 0 aa=List.replicate aa aM:=by have:=Mv (L:=cM L aa y);rwa [hl] at this
 rw[h,rB] at e
 exact e
theorem Ay {A B:List Ce}(ga:bU A rows aa)(gb:bU B rows aa)(h:∀y<rows,cM A aa y=cM B aa y):A=B:=by
 refine dM (by rw[ga.len,gb.len]) fun i hi=>?_
 rw[ga.len] at hi
 have hc:=ga.c
 have hy:i / aa<rows:=(Nat.div_lt_iff_lt_mul (by omega)).2 hi
 have hx:i % aa<aa:=Nat.mod_lt _ (by omega)
 have e:i / aa*aa+i % aa=i:=by rw[Nat.mul_comm];exact Nat.div_add_mod i aa
 have:=congrArg (fun L=>L.getD (i % aa) aM) (h _ hy)
 rw[cU ga hy hx,cU gb hy hx,e] at this
 exact this
theorem wT {a' b':Nat}(g:bU L rows aa)(hy:y<rows)(hab:a<=b)(hb:b<=L.length)(ads:a'<=b')(hb':b'<=aa)(h:∀x<aa,(a<=y*aa+x/\y*aa+x<b)↔(a'<=x/\x<b')):cM (gr L a b) aa y=gr (cM L aa y) a' b':=by
 have hl:=bG g hy
 refine ij (g.ej (gq hab hb)) hy (by rw[gq ads (by omega),hl]) fun x hx=>?_
 rw[jh hab hb,jh ads (by omega),cU g hy hx]
 have:=h x hx
 rcases Decidable.em (a'<=x/\x<b') with hh | hh
 ·rw[if_pos (this.2 hh),if_pos hh]
 ·rw[if_neg (fun e=>hh (this.1 e)),if_neg hh]
theorem Pv (L:List Ce)(a:Nat):gr L a a=L:=by simp[gr,cy]
theorem Pu {n:Nat}(h:L.length=n):gr L 0 n=List.replicate n aM:=by subst h;exact Mv
theorem Ds (s:Sc)(k:Int):ju s k=(((ju s k).toNat:Nat):Int):=by unfold ju;split <;> omega
theorem LU (s:Sc)(k:Int):toK s k=(((toK s k).toNat:Nat):Int):=by unfold toK;split <;> omega
theorem HR (h:aR s)(k:Int):(ju s k).toNat<=(toK s k).toNat/\(toK s k).toNat<=s.aa:=by
 have:=h.x
 unfold ju toK
 split <;> split <;> omega
def AK (s:Sc)(k:Int)(y':Nat):List Ce:=
 if y'=s.y then fh (gr (cM s.cells s.aa s.y) (ju s k).toNat (toK s k).toNat)
 else if k=2\/(k=0/\s.y<y')\/(k=1/\y'<s.y) then List.replicate s.aa aM else cM s.cells s.aa y'
theorem CV {s:Sc}(h:aR s)(k:Int):∀n,n<=s.rows->∀y'<s.rows,cM (gU s k n) s.aa y'=if y'<n then AK s k y' else cM s.cells s.aa y'
 | 0,_,y',_=>by rw[if_neg (by omega)];rfl
 | n+1,hn,y',hy'=>by
  have g:=xA h k n (by omega)
  have ih:=CV h k n (by omega)
  obtain ⟨e1,e2⟩:=HR h k
  unfold gU
  rcases Decidable.em (n=s.y) with hs | hs
  ·have e3:=ih n (by omega)
   rw[if_neg (Nat.lt_irrefl n)] at e3
   rw[if_pos hs,Ds s k,LU s k,CW g (by omega) hy' e1 e2,e3]
   rcases Decidable.em (y'=n) with hh | hh
   ·rw[if_pos hh,if_pos (by omega)]
    unfold AK
    rw[if_pos (by omega),hs]
   ·rw[if_neg hh,ih y' hy']
    rcases Nat.lt_or_ge y' n with h3 | h3
    ·rw[if_pos h3,if_pos (by omega)]
    ·rw[if_neg (by omega),if_neg (by omega)]
  ·rw[if_neg hs]
   split
   ·rename_i hc
    have:=Gs g (y:=n) (y':=y') (by omega) hy'
    rw[this]
    rcases Decidable.em (y'=n) with hh | hh
    ·rw[if_pos hh,if_pos (by omega)]
     unfold AK
     rw[if_neg (by omega),if_pos (by rw[hh];exact hc)]
    ·rw[if_neg hh,ih y' hy']
     rcases Nat.lt_or_ge y' n with h3 | h3
     ·rw[if_pos h3,if_pos (by omega)]
     ·rw[if_neg (by omega),if_neg (by omega)]
   ·rename_i hc
    rw[ih y' hy']
    rcases Decidable.em (y'=n) with hh | hh
    ·rw[if_neg (by omega),if_pos (by omega)]
     unfold AK
     rw[if_neg (by omega),if_neg (by rw[hh];exact hc)]
    ·rcases Nat.lt_or_ge y' n with h3 | h3
     ·rw[if_pos h3,if_pos (by omega)]
     ·rw[if_neg (by omega),if_neg (by omega)]
def lY (s:Sc)(row:Bool)(k:Int):Nat:=if k=0 then s.y*s.aa+s.x else if row=true then s.y*s.aa else 0
def lJ (s:Sc)(row:Bool)(k:Int):Nat:=if k=1 then s.y*s.aa+s.x+1 else if row=true then (s.y+1)*s.aa else s.rows*s.aa
theorem aaj (h:aR s)(row:Bool)(k:Int):lY s row k<=lJ s row k/\lJ s row k<=s.cells.length:=by
 have h1:=cY (aa:=s.aa) h.y
 have h2:=bx s.y s.aa
 have h3:=h.x
 have h4:=h.g.len
 unfold lY lJ
 split <;> split <;> (try split) <;> (try split) <;> omega
theorem tF {y':Nat}(g:bU L rows aa)(hy:y<rows)(hy':y'<rows):cM (cO L aa y) aa y'=if y'=y then fh (cM L aa y) else cM L aa y':=by
 unfold cO
 rw[mb g hy hy' (by rw[bQ,bG g hy])]
theorem HU:lY s false 0=s.y*s.aa+s.x/\lJ s false 0=s.rows*s.aa/\(ju s 0).toNat=s.x/\(toK s 0).toNat=s.aa:=by simp[lY,lJ,ju,toK]
theorem HT:lY s false 1=0/\lJ s false 1=s.y*s.aa+s.x+1/\(ju s 1).toNat=0/\(toK s 1).toNat=s.x+1:=by simp[lY,lJ,ju,toK]
theorem OY:lY s false 2=0/\lJ s false 2=s.rows*s.aa/\(ju s 2).toNat=0/\(toK s 2).toNat=s.aa:=by simp[lY,lJ,ju,toK]
theorem NN (h:aR s)(row:Bool){k:Int}(hk:0<=k/\k<=2):{ s with wrap:=false,cells:=cO (gr s.cells (lY s row k) (lJ s row k)) s.aa s.y}=fW s row k:=by
 have h1:=cY (aa:=s.aa) h.y
 have h2:=bx s.y s.aa
 have h3:=h.x
 have h4:=h.g.len
 obtain ⟨e1,e2⟩:=HR h k
 obtain ⟨e3,e4⟩:=aaj h row k
 unfold fW
 rw[if_pos hk]
 congr 1
 cases row with
 | true=>
  rw[if_pos rfl]
  have ea:lY s true k=s.y*s.aa+(ju s k).toNat:=by rcases Decidable.em (k=0) with e | e <;> simp[lY,ju,e]
  have eb:lJ s true k=s.y*s.aa+(toK s k).toNat:=by rcases Decidable.em (k=1) with e | e <;> simp[lJ,toK,e] <;> omega
  rw[ea,eb,Ho h.g h.y e1 e2,<-Ds,<-LU]
 | false=>
  rw[if_neg (by simp)]
  have gb:bU (gr s.cells (lY s false k) (lJ s false k)) s.rows s.aa:=h.g.ej (gq e3 e4)
  refine Ay (rows:=s.rows) (gb.ej (fH gb h.y)) (xA h k s.rows (Nat.le_refl _)) fun y' hy'=>?_
  rw[CV h k s.rows (Nat.le_refl _) y' hy',if_pos hy',tF gb h.y hy']
  have s2:=bx y' s.aa
  have s3:=cY (aa:=s.aa) hy'
  unfold AK
  rcases Decidable.em (y'=s.y) with hh | hh
  ·rw[if_pos hh,if_pos hh]
   congr 1
   refine wT h.g h.y e3 e4 e1 e2 fun x hx=>?_
   rcases (show k=0\/k=1\/k=2 by omega) with rfl | rfl | rfl
   ·rw[HU.1,HU.2.1,HU.2.2.1,HU.2.2.2];omega
   ·rw[HT.1,HT.2.1,HT.2.2.1,HT.2.2.2];omega
   ·rw[OY.1,OY.2.1,OY.2.2.1,OY.2.2.2];omega
  ·rw[if_neg hh,if_neg hh]
   have lo:y'<s.y->(y'+1)*s.aa<=s.y*s.aa:=fun h=>Nat.mul_le_mul_right _ h
   have hi:s.y<y'->(s.y+1)*s.aa<=y'*s.aa:=fun h=>Nat.mul_le_mul_right _ h
   split
   ·rename_i hc
    rw[wT (a':=0) (b':=s.aa) h.g hy' e3 e4 (by omega) (Nat.le_refl _),Pu (bG h.g hy')]
    intro x hx
    rcases hc with rfl | ⟨rfl,hc⟩ | ⟨rfl,hc⟩
    ·rw[OY.1,OY.2.1];omega
    ·have:=hi hc
     rw[HU.1,HU.2.1];omega
    ·have:=lo hc
     rw[HT.1,HT.2.1];omega
   ·rename_i hc
    rw[wT (a':=0) (b':=0) h.g hy' e3 e4 (by omega) (by omega),Pv]
    intro x hx
    rcases (show k=0\/k=1 by omega) with rfl | rfl
    ·have:=lo (by omega)
     rw[HU.1,HU.2.1];omega
    ·have:=hi (by omega)
     rw[HT.1,HT.2.1];omega
end
end Go.Proofs.YtjmnbpilnneonaaGreatDoor
