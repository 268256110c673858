/- Texts H13, H14, H15, H16, C10, C11, C12, C13 in one. -/
import Derived.Test.YtjmnbpilnneonaaGreatDoorN8
import Derived.Test.YtjmnbpilnneonaaGreatDoorN4
import Derived.Test.YtjmnbpilnneonaaGreatDoorN1
set_option linter.unusedVariables false
set_option linter.unusedSimpArgs false
set_option maxRecDepth 10000
namespace Go.Proofs.YtjmnbpilnneonaaGreatDoor
open Go.RowKit
noncomputable def gd:RFn:=⟨2,70,(SR [OP 3 (.box 6 (.t 1))] [0,3] (.blk 0 (SR [FA 5 0 3,LD 6 5,BI 7 .eql 6 0,MV 4 7] [0,3,4] (.cond (.t 4) (.reg [MV 8 0,FA 9 1 3,LD 10 9,OP 11 (.call 62 [.t 8,.t 10])] 0 []) (SR [FA 13 0 3,LD 14 13,BI 15 .eql 14 1,MV 12 15] [0,3,12] (.cond (.t 12) (.reg [MV 16 0,FA 17 2 3,LD 18 17,OP 19 (.call 63 [.t 16,.t 18])] 0 []) (SR [FA 21 0 3,LD 22 21,BI 23 .eql 22 2,MV 24 23,FG 25 5 3 24 true,LG 26 25 24 true,OG 27 (.len (.t 26)) 24 true,OG 28 (.bin .eql (.t 27) (.c (.int .i64 0))) 24 true,OP 29 (.pick (.t 24) (.t 28) (.c (.bool false))),MV 20 29] [0,3,20] (.cond (.t 20) (.reg [MV 30 0,FA 31 2 3,LD 32 31,OP 33 (.call 64 [.t 30,.t 32])] 0 []) (SR [FA 35 0 3,LD 36 35,BI 37 .eql 36 3,MV 38 37,FG 39 5 3 38 true,LG 40 39 38 true,OG 41 (.len (.t 40)) 38 true,OG 42 (.bin .eql (.t 41) (.c (.int .i64 0))) 38 true,OP 43 (.pick (.t 38) (.t 42) (.c (.bool false))),MV 44 43,FG 45 3 3 44 true,LG 46 45 44 true,OG 47 (.bin .eql (.t 46) (.c (.int .u8 0))) 44 true,OP 48 (.pick (.t 44) (.t 47) (.c (.bool false))),MV 34 48] [0,3,34] (.cond (.t 34) (.reg [MV 49 0,LT 50 6 3,OP 51 (.call 65 [.t 49,.t 50])] 0 []) (SR [FA 53 0 3,LD 54 53,BI 55 .eql 54 3,MV 56 55,FG 57 5 3 56 true,LG 58 57 56 true,OG 59 (.len (.t 58)) 56 true,OG 60 (.bin .eql (.t 59) (.c (.int .i64 0))) 56 true,OP 61 (.pick (.t 56) (.t 60) (.c (.bool false))),MV 62 61,FG 63 3 3 62 true,LG 64 63 62 true,OG 65 (.bin .eql (.t 64) (.c (.int .u8 63))) 62 true,OP 66 (.pick (.t 62) (.t 65) (.c (.bool false))),MV 52 66] [0,3,52] (.cond (.t 52) (.reg [MV 67 0,LT 68 6 3,OP 69 (.call 66 [.t 67,.t 68])] 0 []) .skip)))))))))))),[]⟩
theorem ir:aK PG.P [⟨0,0,[0,3],[]⟩,⟨1,0,[0,3,4],[]⟩,⟨2,0,[],[]⟩,⟨3,0,[0,3,12],[]⟩,⟨4,0,[],[]⟩,⟨5,0,[0,3,20],[]⟩,⟨6,0,[],[]⟩,⟨7,0,[0,3,34],[]⟩,⟨8,0,[],[]⟩,⟨9,0,[0,3,52],[]⟩,⟨10,0,[],[]⟩] 34=some gd:=by kernel_rfl
def doF (s:Sc)(k r b pv:Int)(ps is:List Int):Sc:=
 if k=0 then iU s r else if k=1 then xz s b else if k=2∧is=[] then jD s b
 else if k=3∧is=[]∧pv=0 then eJ s b ps
 else if k=3∧is=[]∧pv=63 then (if b=104∨b=108 then ps.foldl (dZ (decide (b=104))) s else s)
 else s
def doP (p:Pa)(k b:Int)(is:List Int):Pa:=if k=2∧is=[] then mq b p else p
theorem NB {s:Sc}(h:aR s)(k r b pv:Int)(ps is:List Int):aR (doF s k r b pv ps is):=by
 unfold doF
 split
 ·exact Sn h r
 split
 ·exact YM h b
 split
 ·exact YL h b
 split
 ·exact YO h b ps
 split
 ·split
  ·exact pS h
  ·exact h
 ·exact h
theorem abq {T0 T:aj}{o:Nat}{s:Sc}{p:Pa}{sz sz2:Nat}{sk sk2:SK}{ps is:List Int}{k r b pv:Int}{K:DV→aj→Prop}(hr:-2147483648≤r∧r≤2147483647)(hs:sz=1∨ps=[])(hl:ps.length≤1000000)(hps:∀k∈ps,0≤k∧k≤65535)(ok:aR s)(h:aB T0 T o s p)
  (hK:∀T',T.length≤T'.length→aB T0 T' o (doF s k r b pv ps is) (doP p k b is)→K (.tup []) T'):aq PG 34 [.ptr o 0 0,acD k r b pv (.sl sz (af .i64 ps) sk) (.sl sz2 (af .u8 is) sk2)] T K:=by
 have zn:DV.one (.sl sz2 (af .u8 is) sk2)=true:=rfl
 have h1:=h.keep (aA.app T [some (Ob.box [.int .i64 k,.int .i32 r,.int .u8 b,.int .u8 pv,.sl sz (af .i64 ps) sk,.sl sz2 (af .u8 is) sk2])] [])
 have hli:(af .u8 is).length=is.length:=by simp [af]
 have eL:∀T',T.length+1≤T'.length→aB T0 T' o (doF s k r b pv ps is) (doP p k b is)→T.length≤T'.length∧K (.tup []) T':=fun T' l t=>⟨by omega,hK T' (by omega) t⟩
 unfold acD
 rcases Decidable.em (k=0) with rfl | n0
 ·rw [show doF s 0 r b pv ps is=iU s r from rfl,show doP p 0 b is=p by simp [doP]] at eL
  refine aq.aE FOk.nil ir (by simp [gd]) ?_
  unfold gd
  dsimp only
  simp -implicitDefEqProofs -dsimp only [ah,vcS,↓an,↓ak,simprocAttr]
  refine TO hr ok h1 fun T' l t'=>?_
  simp -implicitDefEqProofs -dsimp only [ah,vcS,↓an,↓ak,simprocAttr]
  exact eL T' (by simpa using l) t'
 rcases Decidable.em (k=1) with rfl | n1
 ·rw [show doF s 1 r b pv ps is=xz s b from rfl,show doP p 1 b is=p by simp [doP]] at eL
  refine aq.aE FOk.nil ir (by simp [gd]) ?_
  unfold gd
  dsimp only
  simp -implicitDefEqProofs -dsimp only [ah,vcS,↓an,↓ak,simprocAttr]
  refine ZI ok h1 fun T' l t'=>?_
  simp -implicitDefEqProofs -dsimp only [ah,vcS,↓an,↓ak,simprocAttr]
  exact eL T' (by simpa using l) t'
 rcases Decidable.em (k=2) with rfl | n2
 ·rcases Decidable.em (is=[]) with e | e
  ·have e':(is.length:Int)=0:=by rw [e];rfl
   rw [show doF s 2 r b pv ps is=jD s b by simp [doF,e],show doP p 2 b is=mq b p by simp [doP,e]] at eL
   refine aq.aE FOk.nil ir (by simp [gd]) ?_
   unfold gd
   dsimp only
   simp -implicitDefEqProofs -dsimp only [ah,hli,eq_true e',vcS,↓an,↓ak,simprocAttr]
   refine ZH ok h1 fun T' l t'=>?_
   simp -implicitDefEqProofs -dsimp only [ah,vcS,↓an,↓ak,simprocAttr]
   exact eL T' (by simpa using l) t'
  ·have e':¬(is.length:Int)=0:=fun h=>e (List.length_eq_zero_iff.1 (by omega))
   rw [show doF s 2 r b pv ps is=s by simp [doF,e],show doP p 2 b is=p by simp [doP,e]] at eL
   refine aq.aE FOk.nil ir (by simp [gd]) ?_
   unfold gd
   dsimp only
   simp -implicitDefEqProofs -dsimp only [ah,hli,eq_false e',vcS,↓an,↓ak,simprocAttr]
   exact (eL _ (by simp) h1).2
 rcases Decidable.em (k=3) with rfl | n3
 ·rw [show doP p 3 b is=p by simp [doP]] at eL
  rcases Decidable.em (is=[]) with e | e
  ·have e':(is.length:Int)=0:=by rw [e];rfl
   rcases Decidable.em (pv=0) with rfl | p0
   ·rw [show doF s 3 r b 0 ps is=eJ s b ps by simp [doF,e]] at eL
    refine aq.aE FOk.nil ir (by simp [gd]) ?_
    unfold gd
    dsimp only
    simp -implicitDefEqProofs -dsimp only [ah,hli,eq_true e',vcS,↓an,↓ak,simprocAttr]
    refine ZJ hs hl hps rfl ok h1 fun T' l t'=>?_
    simp -implicitDefEqProofs -dsimp only [ah,vcS,↓an,↓ak,simprocAttr]
    exact eL T' (by simpa using l) t'
   ·rcases Decidable.em (pv=63) with rfl | p6
    ·rw [show doF s 3 r b 63 ps is=(if b=104∨b=108 then ps.foldl (dZ (decide (b=104))) s else s) by simp [doF,e]] at eL
     refine aq.aE FOk.nil ir (by simp [gd]) ?_
     unfold gd
     dsimp only
     simp -implicitDefEqProofs -dsimp only [ah,hli,eq_true e',vcS,↓an,↓ak,simprocAttr]
     refine TQ hs hl rfl ok h1 fun T' l t'=>?_
     simp -implicitDefEqProofs -dsimp only [ah,vcS,↓an,↓ak,simprocAttr]
     exact eL T' (by simpa using l) t'
    ·rw [show doF s 3 r b pv ps is=s by simp [doF,e,p0,p6]] at eL
     refine aq.aE FOk.nil ir (by simp [gd]) ?_
     unfold gd
     dsimp only
     simp -implicitDefEqProofs -dsimp only [ah,hli,eq_true e',eq_false p0,eq_false p6,vcS,↓an,↓ak,simprocAttr]
     exact (eL _ (by simp) h1).2
  ·have e':¬(is.length:Int)=0:=fun h=>e (List.length_eq_zero_iff.1 (by omega))
   rw [show doF s 3 r b pv ps is=s by simp [doF,e]] at eL
   refine aq.aE FOk.nil ir (by simp [gd]) ?_
   unfold gd
   dsimp only
   simp -implicitDefEqProofs -dsimp only [ah,hli,eq_false e',vcS,↓an,↓ak,simprocAttr]
   exact (eL _ (by simp) h1).2
 ·rw [show doF s k r b pv ps is=s by simp [doF,n0,n1,n2,n3],show doP p k b is=p by simp [doP,n2]] at eL
  refine aq.aE FOk.nil ir (by simp [gd]) ?_
  unfold gd
  dsimp only
  simp -implicitDefEqProofs -dsimp only [ah,hli,eq_false n0,eq_false n1,eq_false n2,eq_false n3,vcS,↓an,↓ak,simprocAttr]
  exact (eL _ (by simp) h1).2
noncomputable def sW:RFn:=⟨1,34,(SR [OP 1 (.box 24 (.t 0)),OP 2 (.alloc [.int .i64 0,.int .i64 0,.sl 0 [] .nil,.int .i64 0,.int .i64 0,.bool false,.int .u16 0,.int .i64 0,.int .i64 0,.sl 0 [] .nil,.int .i64 0,.int .i64 0,.int .u16 0,.bool false,.bool false,.bool false,.sl 0 [] .nil,.int .i64 0,.int .i64 0,.int .i64 0,.int .u8 0,.sl 0 [] .nil,.sl 0 [] .nil,.sl 0 [] .nil])] [1,2] (.seq (.cK (.take (FA 3 2 1) [] (.take (LD 4 3) [] (.take (FA 6 16 1) [] (.take (LD 7 6) [] (.take (FA 9 9 1) [] (.take (LD 10 9) [] (.op (OP 5 (.call 43 [.t 4])) (.take (FA 12 2 1) [] (.op (OP 8 (.call 43 [.t 7])) (.mid (OP 11 (.call 56 [.t 10])) (.op (SA 1 12 5) (.take (FA 13 16 1) [] (.op (SA 1 13 8) (.take (FA 14 9 1) [] (.op (SA 1 14 11) .done))))))))))))))) 0 [1,2]) (.seq (.cK (.take (FA 15 19 1) [] (.take (FA 16 2 15) [] (.take (LD 17 16) [] (.take (FA 19 19 1) [] (.take (FA 20 3 19) [] (.take (LD 21 20) [] (.take (FA 23 19 1) [] (.take (FA 24 4 23) [] (.take (LD 25 24) [] (.op (OP 18 (.call 57 [.t 17])) (.take (FA 27 19 1) [] (.take (FA 28 2 27) [] (.op (OP 22 (.call 58 [.t 21])) (.mid (OP 26 (.call 58 [.t 25])) (.op (SA 1 28 18) (.take (FA 29 19 1) [] (.take (FA 30 3 29) [] (.op (SA 1 30 22) (.take (FA 31 19 1) [] (.take (FA 32 4 31) [] (.op (SA 1 32 26) .done))))))))))))))))))))) 0 [1,2]) (SR [LT 33 24 1,SA 24 2 33] [2] .ret)))),[.c 2 true 24]⟩
theorem Dl:aK PG.P [⟨0,0,[1,2],[]⟩,⟨1,0,[1,2],[]⟩,⟨2,0,[1,2],[]⟩,⟨3,0,[2],[]⟩] 32=some sW:=by kernel_rfl
noncomputable def wA:RFn:=⟨1,21,(SR [OP 1 (.box 24 (.t 0)),MB 2 false] [1] (SR [FA 3 0 1,LD 4 3,BI 5 .geq 4 1,MV 6 5,FG 7 0 1 6 true,LG 8 7 6 true,OG 9 (.bin .leq (.t 8) (.c (.int .i64 1000))) 6 true,OP 10 (.pick (.t 6) (.t 9) (.c (.bool false))),MV 11 10,FG 12 1 1 11 true,LG 13 12 11 true,OG 14 (.bin .geq (.t 13) (.c (.int .i64 1))) 11 true,OP 15 (.pick (.t 11) (.t 14) (.c (.bool false))),MV 16 15,FG 17 1 1 16 true,LG 18 17 16 true,OG 19 (.bin .leq (.t 18) (.c (.int .i64 1000))) 16 true,OP 20 (.pick (.t 16) (.t 19) (.c (.bool false))),MV 2 20] [2] .ret)),[.t 2]⟩
theorem GQ:aK PG.P [⟨0,0,[1],[]⟩,⟨1,0,[2],[]⟩] 24=some wA:=by kernel_rfl
def Bv (sz:Nat)(rows:List (List DV)):Prop:=(sz=3∨rows=[])∧(∃L,rows=av L)∧rows.length≤1000000
def Yq (sz:Nat)(rows:List (List DV)):Prop:=(sz=1∨rows=[])∧(∃L,rows=bn L)∧rows.length≤1000000
theorem qU {sz:Nat}{L:List Ce}(hs:sz=3∨L=[])(hl:L.length≤1000000):Bv sz (av L):=⟨hs.imp id fun h=>by rw [h];rfl,⟨L,rfl⟩,by rw [aH];exact hl⟩
theorem Yp {sz:Nat}{L:List Bool}(hs:sz=1∨L=[])(hl:L.length≤1000000):Yq sz (bn L):=⟨hs.imp id fun h=>by rw [h];rfl,⟨L,rfl⟩,by rw [bC];exact hl⟩
theorem NL {sz:Nat}:az PG 43 [.sl sz [] .nil] fun n r os=>r=.sl 0 [] .nil∧os=[]:=by
 refine az.cY (res:=fun n=>(.sl 0 [] .nil,[])) FOk.nil ov (by simp [jO]) fun n=>?_
 unfold jO
 dsimp only
 simp -implicitDefEqProofs -dsimp only [vcS,↓an,↓ak,simprocAttr]
theorem NK {sz:Nat}{L:List Ce}(hs:sz=3∨L=[])(hl:L.length≤1000000):az PG 43 [.sl sz (av L) .gf] fun n r os=>r=.own n 0 L.length∧os=[some (.arr 3 (av L))]:=by
 refine az.cY (res:=fun n=>(.own n 0 L.length,[some (.arr 3 (av L))])) FOk.nil ov (by simp [jO]) fun n=>?_
 unfold jO
 dsimp only
 have hn:av L=[]↔L=[]:=by cases L <;> simp [av]
 simp -implicitDefEqProofs -dsimp only [aH,hn,hs,hl,eq_true (lT L),vcS,↓an,↓ak,simprocAttr]
 exact ⟨by omega,by omega⟩
theorem Wa {sz:Nat}{k:SK}{L:List Ce}(hs:sz=3∨L=[])(hl:L.length≤1000000):az PG 43 [.sl sz (av L) k] fun n r os=>r=.own n 0 L.length∧os=[some (.arr 3 (av L))]:=by
 refine az.oK (i:=0) rfl (fun h=>?_) ?_
 ·have hn:L=[]:=by cases L with | nil=>rfl | cons a l=>simp [av] at h
  subst hn
  exact NL.zG
 ·exact NK hs hl
theorem nO (L:List Bool):gF (bn L):=fun row hr c hc=>by
 simp only [bn,List.mem_map] at hr
 obtain ⟨e,_,rfl⟩:=hr
 simp at hc
 subst hc
 exact .bool _
theorem NF {sz:Nat}:az PG 56 [.sl sz [] .nil] fun n r os=>r=.sl 0 [] .nil∧os=[]:=by
 refine az.cY (res:=fun n=>(.sl 0 [] .nil,[])) FOk.nil uB (by simp [nE]) fun n=>?_
 unfold nE
 dsimp only
 simp -implicitDefEqProofs -dsimp only [vcS,↓an,↓ak,simprocAttr]
theorem ND {sz:Nat}{L:List Bool}(hs:sz=1∨L=[])(hl:L.length≤1000000):az PG 56 [.sl sz (bn L) .gf] fun n r os=>r=.own n 0 L.length∧os=[some (.arr 1 (bn L))]:=by
 refine az.cY (res:=fun n=>(.own n 0 L.length,[some (.arr 1 (bn L))])) FOk.nil uB (by simp [nE]) fun n=>?_
 unfold nE
 dsimp only
 have hn:bn L=[]↔L=[]:=by cases L <;> simp [bn]
 simp -implicitDefEqProofs -dsimp only [bC,hn,hs,hl,eq_true (nO L),vcS,↓an,↓ak,simprocAttr]
 exact ⟨by omega,by omega⟩
theorem V5 {sz:Nat}{k:SK}{L:List Bool}(hs:sz=1∨L=[])(hl:L.length≤1000000):az PG 56 [.sl sz (bn L) k] fun n r os=>r=.own n 0 L.length∧os=[some (.arr 1 (bn L))]:=by
 refine az.oK (i:=0) rfl (fun h=>?_) ?_
 ·have hn:L=[]:=by cases L with | nil=>rfl | cons a l=>simp [bn] at h
  subst hn
  exact NF.zG
 ·exact ND hs hl
def nX:List DV→Option aS
 | [.sl sz rows k]=>some ⟨Bv sz rows,fun n=>(.own n 0 rows.length,[some (.arr 3 rows)])⟩
 | _=>none
theorem mG (sz:Nat)(rows:List (List DV))(k:SK):nX [.sl sz rows k]=some ⟨Bv sz rows,fun n=>(.own n 0 rows.length,[some (.arr 3 rows)])⟩:=au _
theorem SY (args:List DV)(s:aS)(hs:nX args=some s)(hp:s.pre):az PG 43 args fun n r os=>r=(s.res n).1∧os=(s.res n).2:=by
 unfold nX at hs
 split at hs
 ·obtain rfl:=sj hs
  obtain ⟨h1,⟨L,rfl⟩,h3⟩:=hp
  rw [aH] at h3
  dsimp only
  rw [aH]
  exact Wa (h1.imp id fun h=>by cases L with | nil=>rfl | cons a l=>simp [av] at h) h3
 ·cases hs
def qA:List DV→Option aS
 | [.sl sz rows k]=>some ⟨Yq sz rows,fun n=>(.own n 0 rows.length,[some (.arr 1 rows)])⟩
 | _=>none
theorem Od (sz:Nat)(rows:List (List DV))(k:SK):qA [.sl sz rows k]=some ⟨Yq sz rows,fun n=>(.own n 0 rows.length,[some (.arr 1 rows)])⟩:=au _
theorem SV (args:List DV)(s:aS)(hs:qA args=some s)(hp:s.pre):az PG 56 args fun n r os=>r=(s.res n).1∧os=(s.res n).2:=by
 unfold qA at hs
 split at hs
 ·obtain rfl:=sj hs
  obtain ⟨h1,⟨L,rfl⟩,h3⟩:=hp
  rw [bC] at h3
  dsimp only
  rw [bC]
  exact V5 (h1.imp id fun h=>by cases L with | nil=>rfl | cons a l=>simp [bn] at h) h3
 ·cases hs
theorem V9 {sz:Nat}{k:SK}{l:List Int}(hs:sz=1∨l=[])(hk:inK .i64 l)(hp:l.length≤1000000):az PG 57 [.sl sz (af .i64 l) k] fun n r os=>r=.sl 1 (af .i64 l) .any∧os=[]:=by
 refine az.oK (i:=0) rfl (fun h=>?_) ?_
 ·have hn:l=[]:=by simpa [af] using h
  subst hn
  refine az.iI (res:=fun n=>(.sl 1 [] .any,[])) FOk.nil lE (by simp [iu]) fun n=>?_
  unfold iu
  dsimp only
  simp -implicitDefEqProofs -dsimp only [vcS,↓an,↓ak,simprocAttr]
 ·refine az.iI (res:=fun n=>(.sl 1 (af .i64 l) .any,[])) FOk.nil lE (by simp [iu]) fun n=>?_
  unfold iu
  dsimp only
  have hs':sz=1∨af .i64 l=[]:=hs.imp id fun h=>by simp [h,af]
  simp -implicitDefEqProofs -dsimp only [List.take_length,vcS,↓an,↓ak,simprocAttr]
  exact ⟨hs',by omega,by omega⟩
def nW:List DV→Option aS
 | [a]=>some ⟨aD .i64 a∧(aF a).length≤1000000,fun n=>(.sl 1 (af .i64 (aF a)) .any,[])⟩
 | _=>none
theorem Mq (a:DV):nW [a]=some ⟨aD .i64 a∧(aF a).length≤1000000,fun n=>(.sl 1 (af .i64 (aF a)) .any,[])⟩:=au _
theorem NJ (args:List DV)(s:aS)(hs:nW args=some s)(hp:s.pre):az PG 57 args fun n r os=>r=(s.res n).1∧os=(s.res n).2:=by
 unfold nW at hs
 split at hs
 ·obtain rfl:=sj hs
  obtain ⟨h1,h2⟩:=hp
  obtain ⟨sz,k,e,h3,h4⟩:=aL h1
  have:=V9 (k:=k) h3 h4 h2
  rw [←e] at this
  exact this
 ·cases hs
theorem V7 {sz:Nat}{k:SK}{l:List Int}(hs:sz=1∨l=[])(hk:inK .u8 l)(hp:l.length≤1000000):az PG 58 [.sl sz (af .u8 l) k] fun n r os=>r=.sl 1 (af .u8 l) .any∧os=[]:=by
 refine az.oK (i:=0) rfl (fun h=>?_) ?_
 ·have hn:l=[]:=by simpa [af] using h
  subst hn
  refine az.iI (res:=fun n=>(.sl 1 [] .any,[])) FOk.nil lF (by simp [iw]) fun n=>?_
  unfold iw
  dsimp only
  simp -implicitDefEqProofs -dsimp only [vcS,↓an,↓ak,simprocAttr]
 ·refine az.iI (res:=fun n=>(.sl 1 (af .u8 l) .any,[])) FOk.nil lF (by simp [iw]) fun n=>?_
  unfold iw
  dsimp only
  have hs':sz=1∨af .u8 l=[]:=hs.imp id fun h=>by simp [h,af]
  simp -implicitDefEqProofs -dsimp only [List.take_length,vcS,↓an,↓ak,simprocAttr]
  exact ⟨hs',by omega,by omega⟩
def nV:List DV→Option aS
 | [a]=>some ⟨aD .u8 a∧(aF a).length≤1000000,fun n=>(.sl 1 (af .u8 (aF a)) .any,[])⟩
 | _=>none
theorem Mp (a:DV):nV [a]=some ⟨aD .u8 a∧(aF a).length≤1000000,fun n=>(.sl 1 (af .u8 (aF a)) .any,[])⟩:=au _
theorem NG (args:List DV)(s:aS)(hs:nV args=some s)(hp:s.pre):az PG 58 args fun n r os=>r=(s.res n).1∧os=(s.res n).2:=by
 unfold nV at hs
 split at hs
 ·obtain rfl:=sj hs
  obtain ⟨h1,h2⟩:=hp
  obtain ⟨sz,k,e,h3,h4⟩:=aL h1
  have:=V7 (k:=k) h3 h4 h2
  rw [←e] at this
  exact this
 ·cases hs
def DC:FL:=(43,.o nX)::(56,.o qA)::(57,.o nW)::[(58,.o nV)]
theorem zL:FOk PG (tab DC):=FOk.cons (FOk.cons (FOk.cons (FOk.cons FOk.nil NG) NJ) SV) SY
theorem HV (args:List DV):tab DC 43 args=(nX args).map .o:=au _
theorem aaT (args:List DV):tab DC 56 args=(qA args).map .o:=au _
theorem aaV (args:List DV):tab DC 57 args=(nW args).map .o:=au _
theorem aaU (args:List DV):tab DC 58 args=(nV args).map .o:=au _
def scD (s : Sc) (z1 z2 z3 : Nat) (k1 k2 k3 : SK) (m pr : Int) (d1 d2 d3 : DV) : List DV :=
  [.int .i64 s.rows, .int .i64 s.aa, .sl z1 (av s.cells) k1, .int .i64 s.y, .int .i64 s.x, .bool s.wrap, .int .u16 s.attr, .int .i64 s.top, .int .i64 s.bot, .sl z2 (bn s.aU) k2,
   .int .i64 s.sy, .int .i64 s.sx, .int .u16 s.fN, .bool s.auto, .bool s.shown, .bool s.alt, .sl z3 (av s.other) k3, .int .i64 s.oy, .int .i64 s.ox, .int .i64 m, .int .u8 pr, d1, d2, d3]
structure ScV (s:Sc) (p:Pa) (z1 z2 z3:Nat) (m pr:Int) (d1 d2 d3:DV):Prop where
 z1:z1=3
 z2:z2=1
 z3:z3=3∨s.other=[]
 pa:xE p m pr d1 d2 d3
def aG (s:Sc)(p:Pa)(v:DV):Prop:=∃z1 z2 z3 k1 k2 k3 m pr d1 d2 d3,ScV s p z1 z2 z3 m pr d1 d2 d3∧v=.agg (scD s z1 z2 z3 k1 k2 k3 m pr d1 d2 d3)
theorem RS {T : aj} {s : Sc} {p : Pa} {z1 z2 z3 : Nat} {k1 k2 k3 : SK} {m pr : Int} {d1 d2 d3 : DV} {K : DV → aj → Prop} (ok : aR s) (hv : ScV s p z1 z2 z3 m pr d1 d2 d3) (pk : dg p)
    (h : ∀ T' q tq oq e1 e2 e3, T.length ≤ q → T.length ≤ tq → T.length ≤ oq → q ≠ tq → oq ≠ q → oq ≠ tq → T'[q]? = some (some (.arr 3 (av s.cells))) → T'[tq]? = some (some (.arr 1 (bn s.aU))) → T'[oq]? = some (some (.arr 3 (av s.other))) →
      xE p m pr e1 e2 e3 → aA T T' [] → K (.agg (aO s q tq (.own oq 0 s.other.length) m pr e1 e2 e3)) T') :
    aq PG 32 [.agg (scD s z1 z2 z3 k1 k2 k3 m pr d1 d2 d3)] T K := by
  have hl := ok.g.lim
  have hc := ok.g.c
  have ht := ok.aU
  have hol : s.other.length ≤ 1000000 := by
    cases ha : s.alt with
    | true => exact (ok.alt ha).lim.1
    | false => rw [(ok.non ha).1]; simp
  have c1 : Bv z1 (av s.cells) := qU (.inl hv.z1) hl.1
  have c3 : Bv z3 (av s.other) := qU hv.z3 hol
  have c2 : Yq z2 (bn s.aU) := Yp (.inl hv.z2) (by omega)
  have pa := hv.pa
  obtain ⟨sa, ka, ea, ha1, ha2⟩ := aL pa.i1
  obtain ⟨sb, kb, eb, hb1, hb2⟩ := aL pa.i2
  obtain ⟨sc, kc, ec, hc1, hc2⟩ := aL pa.i3
  rw [pa.e1] at ea ha1 ha2
  rw [pa.e2] at eb hb1 hb2
  rw [pa.e3] at ec hc1 hc2
  obtain ⟨j1, j2, j3, j4, j5, j6, j7⟩ := pk
  have l1 : p.P.length ≤ 1000000 := by omega
  have l2 : p.I.length ≤ 1000000 := by omega
  have l3 : p.U.length ≤ 1000000 := by omega
  subst ea eb ec
  have i1 : aD .i64 (.sl sa (af .i64 p.P) ka) := pa.i1
  have i2 : aD .u8 (.sl sb (af .u8 p.I) kb) := pa.i2
  have i3 : aD .u8 (.sl sc (af .u8 p.U) kc) := pa.i3
  unfold scD
  refine aq.aE zL Dl (by simp [sW]) ?_
  unfold sW
  dsimp only
  simp -implicitDefEqProofs -dsimp only [ah, HV, aaT, aaV, aaU, mG, Od, Mq, Mp, c1, c2, c3, i1, i2, i3, aM, l1, l2, l3, aH, bC, List.take_length, vcS, ↓an, ↓ak, simprocAttr]
  refine h _ (T.length + 2) (T.length + 4) (T.length + 3) (.sl 1 (af .i64 p.P) .any) (.sl 1 (af .u8 p.I) .any) (.sl 1 (af .u8 p.U) .any) (by omega) (by omega) (by omega) (by omega) (by omega) (by omega) (bh _ _ 2) (bh _ _ 4) (bh _ _ 3) ?_ (aA.app _ _ _)
  exact { m := pa.m, pr := pa.pr, i1 := aQ (.inl rfl) ha2, i2 := aQ (.inl rfl) hb2, i3 := aQ (.inl rfl) hc2, e1 := aM .., e2 := aM .., e3 := aM .. }
theorem IW {T:aj}{s:Sc}{z1 z2 z3:Nat}{k1 k2 k3:SK}{m pr:Int}{d1 d2 d3:DV}{K:DV→aj→Prop}(ok:aR s)(o1:DV.one d1=true)(o2:DV.one d2=true)(o3:DV.one d3=true)(h:∀T',aA T T' []→K (.bool true) T') :
  aq PG 24 [.agg (scD s z1 z2 z3 k1 k2 k3 m pr d1 d2 d3)] T K:=by
 have hr:=ok.g.r
 have hc:=ok.g.c
 have a1:1≤(s.rows:Int):=by omega
 have a2:(s.rows:Int)≤1000:=by omega
 have a3:1≤(s.aa:Int):=by omega
 have a4:(s.aa:Int)≤1000:=by omega
 unfold scD
 refine aq.aE FOk.nil GQ (by simp [wA]) ?_
 unfold wA
 dsimp only
 simp -implicitDefEqProofs -dsimp only [ah,o1,o2,o3,a1,a2,a3,a4,vcS,↓an,↓ak,simprocAttr]
 exact h _ (aA.app _ _ _)
def CG (a:Ac):Prop:=(0≤a.r∧a.r≤2097151)∧(osL a.ps).length≤1000∧∀k∈osL a.ps,0≤k∧k≤65535
theorem YV:∀a∈([]:List Ac),CG a:=fun a h=>by cases h
theorem HU {a:Ac}(h:CG a):∀x∈ [a],CG x:=fun x hx=>by simp at hx;subst hx;exact h
theorem TF {p:Pa}{b:Int}(hp:dg p):∀a∈(jF p b).2,CG a:=HU ⟨⟨Int.le_refl _,show (0:Int)≤2097151 by decide⟩,hp.2.2.2.1,hp.2.2.2.2.2.2⟩
theorem Yo {c:Prop} [Decidable c] {x y:Pa × List Ac}(h1:∀a∈x.2,CG a)(h2:∀a∈y.2,CG a):∀a∈(if c then x else y).2,CG a:=by split <;> assumption
theorem ac0 (k b pv:Int):CG ⟨k,0,b,pv,none,none⟩:=⟨⟨Int.le_refl _,show (0:Int)≤2097151 by decide⟩,by simp [osL],by simp [osL]⟩
theorem DO {p:Pa}{b:Int}(hp:dg p)(hb:0≤b∧b≤255):∀a∈(eG p b).2,CG a:=by
 obtain ⟨j1,j2,j3,j4,j5,j6,j7⟩:=id hp
 have hg:∀a∈(iJ p b).2,CG a:=fun a ha=>by
  unfold iJ at ha
  simp only [List.mem_map] at ha
  obtain ⟨r,hr,rfl⟩:=ha
  exact ⟨zz j3 hb (by omega) r hr,by simp [osL],by simp [osL]⟩
 unfold eG iY jm gG iS
 repeat' (first | exact hg | exact TF hp | exact YV | exact HU (ac0 _ _ _) | exact HU ⟨⟨Int.le_refl _,show (0:Int)≤2097151 by decide⟩,by simp [osL],by simp [osL]⟩ | apply Yo)
theorem DQ {p:Pa}{b:Int}(hp:dg p)(hb:0≤b∧b≤255):∀a∈(cZ p b).2,CG a:=by
 unfold cZ
 split
 ·obtain ⟨h1,h2,h3,h4,h5,h6,h7⟩:=hp
  have:=DO (p:={ p with U:=[]}) (b:=b) ⟨h1,h2,fF _,h4,h5,by simp,h7⟩ hb
  intro a ha
  rcases List.mem_cons.1 ha with rfl | ha
  ·exact ⟨by decide,by simp [osL],by simp [osL]⟩
  ·exact this a ha
 ·exact DO hp hb
def tH (s:Sc)(a:Ac):Sc:=doF s a.k a.r a.b a.p (osL a.ps) (osL a.is)
theorem vl:∀{l:List Ac} {s:Sc},aR s→aR (l.foldl tH s)
 | [],s,h=>h
 | a::l,s,h=>vl (l:=l) (NB h _ _ _ _ _ _)
theorem F7 {l:List Ac}{s:Sc}{i:Nat}{a:Ac}(hi:l[i]?=some a):(l.take (i+1)).foldl tH s=tH ((l.take i).foldl tH s) a:=by
 have hlt:=(List.getElem?_eq_some_iff.1 hi).1
 have e:l[i]=a:=(List.getElem?_eq_some_iff.1 hi).2
 rw [List.take_succ_eq_append_getElem hlt,List.foldl_append,e]
 rfl
def ef (x:Sc × Pa)(c:Int):Sc × Pa:=((cZ x.2 c).2.foldl tH x.1,(cZ x.2 c).1)
theorem HL:∀{l:List Int} {x:Sc × Pa},aR x.1→dg x.2→(∀c∈l,0≤c∧c≤255)→aR (l.foldl ef x).1∧dg (l.foldl ef x).2
 | [],x,h,p,_=>⟨h,p⟩
 | c::l,x,h,p,hb=>HL (l:=l) (x:=ef x c) (vl h) (qH p (hb c (by simp))) fun d hd=>hb d (by simp [hd])
theorem Fo {l:List Int}{x:Sc × Pa}{i:Nat}(hi:i<l.length):(l.take (i+1)).foldl ef x=ef ((l.take i).foldl ef x) (l.getD i 0):=by
 rw [List.take_succ_eq_append_getElem hi,List.foldl_append]
 simp [List.getD_eq_getElem?_getD,hi]
theorem eE.Wq {T:aj}{q sz:Nat}{rows:List (List DV)}{cs:List DV}(h:T[q]?=some (some (.arr sz rows))):eE ⟨[(0,.agg cs)],T⟩ ⟨[(0,.agg (cs.map (DV.hO q sz rows)))],T.set q none⟩:=by
 refine .frz q sz rows ⟨h,fun t=>?_,by simp,fun k ob' hk=>?_⟩ (.refl _)
 ·rw [jb,jb]
  split
  ·exact .inr rfl
  ·exact .inl rfl
 ·rw [getElem?_set] at hk
  by_cases e:q=k
  ·rw [if_pos e] at hk;split at hk <;> simp at hk
  ·rw [if_neg e] at hk;exact ⟨fun e'=>e e'.symm,ob',hk,Dx.refl (fr0.refl _ _ _) _⟩
theorem uX (q sz n:Nat)(rows:List (List DV))(h:n=rows.length):DV.hO q sz rows (.own q 0 n)=.sl sz rows .any:=by
 subst h
 simp [DV.hO]
theorem VS {q sz q' n:Nat}(rows:List (List DV))(h:q'≠q):DV.hO q sz rows (.own q' 0 n)=.own q' 0 n:=by
 simp [DV.hO,h]
theorem VR (q sz:Nat)(rows r2:List (List DV))(s2:Nat)(k:SK):DV.hO q sz rows (.sl s2 r2 k)=.sl s2 r2 k:=rfl
theorem KL (q sz:Nat)(rows:List (List DV))(k:IntKind)(n:Int):DV.hO q sz rows (.int k n)=.int k n:=rfl
theorem BJ (q sz:Nat)(rows:List (List DV))(b:Bool):DV.hO q sz rows (.bool b)=.bool b:=rfl
theorem gC {q sz:Nat}{rows:List (List DV)}{kd:IntKind}{d:DV}(h:aD kd d):DV.hO q sz rows d=d:=by
 obtain ⟨a,b,e,_⟩:=aL h
 rw [e];rfl
theorem eE.sc {n:Nat}{T0 T:aj}{o q tq:Nat}{s:Sc}{p:Pa}{od:DV}{m pr:Int}{d1 d2 d3:DV}(k0:aA T0 T [])(pa:xE p m pr d1 d2 d3)(t:jE T0 T o q tq s od m pr d1 d2 d3)(ok:aR s) :
  ∃v T',eE ⟨[(0,.agg (aO s q tq od m pr d1 d2 d3))],T⟩ ⟨[(0,v)],T'⟩∧aG s p v∧aA T0 T' []∧T'.length=T.length:=by
 have h1:=eE.Wq (cs:=aO s q tq od m pr d1 d2 d3) t.cells
 have h2:=eE.Wq (cs:=(aO s q tq od m pr d1 d2 d3).map (DV.hO q 3 (av s.cells))) (aY t.aU none t.qt.symm)
 have k2:aA T0 ((T.set q none).set tq none) []:=(k0.put t.nq none).put t.nt none
 have f1:∀x:DV,∀k n,x=.int k n→DV.hO q 3 (av s.cells) x=x:=fun x k n e=>by subst e;rfl
 rcases t.oth with ⟨oq,rfl,ho,n1,n2,n3,n4⟩ | ⟨ha,z3,k3,rfl⟩
 ·have h3:=eE.Wq (cs:=((aO s q tq (.own oq 0 s.other.length) m pr d1 d2 d3).map (DV.hO q 3 (av s.cells))).map (DV.hO tq 1 (bn s.aU))) (aY (aY ho none n2) none n3)
  refine ⟨_,_,h1.trans (h2.trans h3),⟨3,1,3,.any,.any,.any,m,pr,d1,d2,d3,⟨rfl,rfl,.inl rfl,pa⟩, ?_⟩,k2.put n4 none,by simp⟩
  simp only [aO,scD,List.map_cons,List.map_nil,uX q 3 _ _ (aH s.cells).symm,VS _ t.qt.symm,VS _ n2,VR,uX tq 1 _ _ (bC s.aU).symm,VS _ n3,uX oq 3 _ _ (aH s.other).symm,gC pa.i1,gC pa.i2,gC pa.i3,KL,BJ]
 ·refine ⟨_,_,h1.trans h2,⟨3,1,z3,.any,.any,k3,m,pr,d1,d2,d3,⟨rfl,rfl,.inr (ok.non ha).1,pa⟩, ?_⟩,k2,by simp⟩
  simp only [aO,scD,List.map_cons,List.map_nil,uX q 3 _ _ (aH s.cells).symm,VS _ t.qt.symm,VR,uX tq 1 _ _ (bC s.aU).symm,gC pa.i1,gC pa.i2,gC pa.i3,(ok.non ha).1,B8,KL,BJ]
noncomputable def xY:RC:=(SR [BT 42 .lss 41 40] [4,5,8,23,24,25,39,40,41,42] (.seq (.cond (.t 42) .skip (.ext 2)) (.seq (.blk 3 (SR [OP 43 (.aT 6 (.t 39) (.t 41)),LT 44 6 43,OP 11 (.alloc [.int .i64 0,.int .i32 0,.int .u8 0,.int .u8 0,.sl 0 [] .nil,.sl 0 [] .nil]),SA 6 11 44] [4,5,8,11,23,24,25,39,40,41] (.reg [MV 45 5,LT 46 6 11,OP 47 (.call 34 [.t 45,.t 46])] 0 [4,5,8,23,24,25,39,40,41]))) (.reg [BI 48 .add 41 1,MV 41 48] 0 [4,5,8,23,24,25,39,40,41]))))
noncomputable def xX:RC:=(SR [BT 26 .lss 25 24] [4,5,23,24,25,26] (.seq (.cond (.t 26) .skip (.ext 0)) (.seq (.blk 1 (SR [OP 27 (.aT 1 (.t 23) (.t 25)),LD 28 27,MV 7 28] [4,5,7,23,24,25] (SR [MV 30 5,OP 31 (.aC (.t 30)),FA 32 0 31,FA 33 19 32,LT 34 5 33,MV 35 7,OP 36 (.call 33 [.t 34,.t 35]),MV 29 36,OP 37 (.ext (.t 29) 0),OP 38 (.ext (.t 29) 1),OP 8 (.alloc [.int .i64 0,.int .u8 0,.sl 0 [] .nil,.sl 0 [] .nil,.sl 0 [] .nil]),SA 5 8 37,MV 9 38] [4,5,8,9,23,24,25] (.seq (SR [MV 39 9,OP 40 (.len (.t 39)),OP 41 (.mov (.c (.int .i64 0)))] [4,5,8,23,24,25,39,40,41] (.blk 2 (.loop xY))) (.reg [MV 49 5,LT 50 5 8,OP 51 (.aC (.t 49)),FA 52 0 51,FA 53 19 52,SA 5 53 50] 0 [4,5,23,24,25]))))) (.reg [BI 54 .add 25 1,MV 25 54] 0 [4,5,23,24,25]))))
noncomputable def AK:RFn:=⟨2,59,(SR [OP 2 (.box 24 (.t 0)),OP 4 (.alloc [.int .i64 0,.int .i64 0,.sl 0 [] .nil,.int .i64 0,.int .i64 0,.bool false,.int .u16 0,.int .i64 0,.int .i64 0,.sl 0 [] .nil,.int .i64 0,.int .i64 0,.int .u16 0,.bool false,.bool false,.bool false,.sl 0 [] .nil,.int .i64 0,.int .i64 0,.int .i64 0,.int .u8 0,.sl 0 [] .nil,.sl 0 [] .nil,.sl 0 [] .nil])] [1,2,4] (SR [LT 12 24 2,OP 13 (.call 32 [.t 12]),OP 14 (.build [.int .i64 0,.int .i64 0,.sl 0 [] .nil,.int .i64 0,.int .i64 0,.bool false,.int .u16 0,.int .i64 0,.int .i64 0,.sl 0 [] .nil,.int .i64 0,.int .i64 0,.int .u16 0,.bool false,.bool false,.bool false,.sl 0 [] .nil,.int .i64 0,.int .i64 0,.int .i64 0,.int .u8 0,.sl 0 [] .nil,.sl 0 [] .nil,.sl 0 [] .nil] [(0,(24,(.t 13)))]),OP 15 (.box 24 (.t 14)),MV 5 15] [1,2,4,5] (.seq (SR [LT 16 24 2,OP 17 (.call 24 [.t 16]),OP 18 (.un .not (.t 17))] [1,4,5,18] (.cond (.t 18) (SR [MV 19 5,OP 20 (.aC (.t 19)),FA 21 0 20,LT 22 24 21,SA 24 4 22] [4] .ret) .skip)) (.seq (SR [MV 23 1,OP 24 (.len (.t 23)),OP 25 (.mov (.c (.int .i64 0)))] [4,5,23,24,25] (.blk 0 (.loop xX))) (SR [MV 55 5,OP 56 (.aC (.t 55)),FA 57 0 56,LT 58 24 57,SA 24 4 58] [4] .ret))))),[.c 4 true 24]⟩
theorem Jx:aK PG.P [⟨0,0,[1,2,4],[]⟩,⟨1,0,[1,2,4,5],[]⟩,⟨2,0,[1,4,5,18],[]⟩,⟨3,0,[4],[]⟩,⟨4,0,[4,5,23,24,25],[]⟩,⟨5,0,[4,5,23,24,25,26],[]⟩,⟨6,0,[4,5,7,23,24,25],[]⟩,⟨7,0,[4,5,8,9,23,24,25],[]⟩,⟨8,0,[4,5,8,23,24,25,39,40,41],[]⟩,⟨9,0,[4,5,8,23,24,25,39,40,41,42],[]⟩,⟨10,0,[4,5,8,11,23,24,25,39,40,41],[]⟩,⟨11,0,[4,5,8,23,24,25,39,40,41],[]⟩,⟨12,0,[4,5,8,23,24,25,39,40,41],[]⟩,⟨13,0,[4,5,23,24,25],[]⟩,⟨14,0,[4,5,23,24,25],[]⟩,⟨15,0,[4],[]⟩] 13=some AK:=by kernel_rfl
theorem N1 (args:List DV):tab T27 32 args=none:=au _
theorem Ia (args:List DV):tab T27 24 args=none:=au _
theorem vA (args:List DV):tab T27 34 args=none:=au _
def kS:List DV:=[.int .i64 0,.int .i64 0,.sl 0 [] .nil,.int .i64 0,.int .i64 0,.bool false,.int .u16 0,.int .i64 0,.int .i64 0,.sl 0 [] .nil,.int .i64 0,.int .i64 0,.int .u16 0,.bool false,.bool false,.bool false,.sl 0 [] .nil,.int .i64 0,.int .i64 0,.int .i64 0,.int .u8 0,.sl 0 [] .nil,.sl 0 [] .nil,.sl 0 [] .nil]
theorem O1 {T:aj}{s:Sc}{p:Pa}{v:DV}{sz:Nat}{sk:SK}{l:List Int}{K:DV→aj→Prop}(ok:aR s)(pk:dg p)(hv:aG s p v)(hs:sz=1∨l=[])(hk:inK .u8 l)(hl:l.length≤1000000)
  (h:∀T' v',aA T T' []→aG (l.foldl ef (s,p)).1 (l.foldl ef (s,p)).2 v'→K v' T'):aq PG 13 [v,.sl sz (af .u8 l) sk] T K:=by
 obtain ⟨z1,z2,z3,k1,k2,k3,m,pr,d1,d2,d3,sv,rfl⟩:=hv
 have o1:DV.one d1=true:=by obtain ⟨a,b,e,_⟩:=aL sv.pa.i1;rw [e];rfl
 have o2:DV.one d2=true:=by obtain ⟨a,b,e,_⟩:=aL sv.pa.i2;rw [e];rfl
 have o3:DV.one d3=true:=by obtain ⟨a,b,e,_⟩:=aL sv.pa.i3;rw [e];rfl
 refine aq.fK mB Jx (by simp [AK]) ?_
 unfold AK
 have esc:scD s z1 z2 z3 k1 k2 k3 m pr d1 d2 d3=[.int .i64 s.rows,.int .i64 s.aa,.sl z1 (av s.cells) k1,.int .i64 s.y,.int .i64 s.x,.bool s.wrap,.int .u16 s.attr,.int .i64 s.top,.int .i64 s.bot,.sl z2 (bn s.aU) k2,.int .i64 s.sy,.int .i64 s.sx,.int .u16 s.fN,.bool s.auto,.bool s.shown,.bool s.alt,.sl z3 (av s.other) k3,.int .i64 s.oy,.int .i64 s.ox,.int .i64 m,.int .u8 pr,d1,d2,d3]:=rfl
 dsimp only
 rw [esc]
 simp -implicitDefEqProofs -dsimp only [ah,N1,Ia,vA,o1,o2,o3,vcS,↓an,↓ak,simprocAttr]
 refine RS ok sv pk fun T1 q tq oq e1 e2 e3 g1 g2 g3 g4 g5 g6 c1 c2 c3 pa k=>?_
 have y1:DV.one e1=true:=by obtain ⟨a,b,e,_⟩:=aL pa.i1;rw [e];rfl
 have y2:DV.one e2=true:=by obtain ⟨a,b,e,_⟩:=aL pa.i2;rw [e];rfl
 have y3:DV.one e3=true:=by obtain ⟨a,b,e,_⟩:=aL pa.i3;rw [e];rfl
 unfold aO
 have hb0:=k.at (bq T [_] (some (Ob.box _))) (by simp)
 simp -implicitDefEqProofs -dsimp only [ah,ai hb0,N1,Ia,vA,o1,o2,o3,y1,y2,y3,vcS,↓an,↓ak,simprocAttr]
 refine IW ok o1 o2 o3 fun T2 k2=>?_
 simp -implicitDefEqProofs -dsimp only [ah,N1,Ia,vA,o1,o2,o3,y1,y2,y3,vcS,↓an,↓ak,simprocAttr]
 have lk:=k.1
 have lk2:=k2.1
 simp only [List.length_append,List.length_cons,List.length_nil] at lk lk2 g1 g2 g3
 have q1:=eB c1
 have q2:=eB c2
 have q3:=eB c3
 have hb4:=k2.at (gO (k.at (bh T [_,some (Ob.box _)] 1) (by simp)) _) (by simp)
 have TR:aB _ T2 T1.length s p:=.mk ((k.eD _).new k2 (by simp)) pa
  ⟨k2.at (bq T1 [] _) (by simp),k2.at (gO c1 _) (by simp),k2.at (gO c2 _) (by simp),.inl ⟨oq,rfl,k2.at (gO c3 _) (by simp),by omega,by omega,by omega,Dd.ge (by simp;omega)⟩,by omega,by omega,by omega,Dd.ge (by simp;omega),Dd.ge (by simp;omega),Dd.ge (by simp;omega)⟩
 obtain ⟨B,kB,lB,zB,TR⟩:∃B:aj,aA T B []∧B.length=T.length+2∧B[T.length+1]?=some (some (.box kS))∧aB B T2 T1.length s p:=⟨_,aA.app _ _ _,by simp,bh _ _ 1,TR⟩
 clear hb4 hb0
 refine bp.inv mB (S:=fun σ:Nat × aj=>⟨[(4,.ptr (T.length+1) 0 0),(5,.ptr T1.length 0 0),(23,.sl sz (af .u8 l) sk),(24,.int .i64 l.length),(25,.int .i64 σ.1)],σ.2⟩)
  (I:=fun σ=>σ.1≤l.length∧aB B σ.2 T1.length ((l.take σ.1).foldl ef (s,p)).1 ((l.take σ.1).foldl ef (s,p)).2) (μ:=fun σ=>l.length-σ.1) (0,T2) ⟨by simp,TR⟩ ?_ ?_
 ·simp -implicitDefEqProofs -dsimp only [ax,vcS,↓an,↓ak,simprocAttr]
 ·intro ⟨i,A⟩ ⟨h1,h2⟩
  dsimp only at h1 h2 ⊢
  have hby:∀c∈l,0≤c∧c≤255:=fun c hc=>by have:=hk.2 c hc;have:=Xu;omega
  have fo:=HL (l:=l.take i) (x:=(s,p)) ok pk fun c hc=>hby c (List.mem_of_mem_take hc)
  have hst:=fun hi=>Fo (x:=(s,p)) (i:=i) (l:=l) hi
  have eL:l.length≤i→(l.take i).foldl ef (s,p)=l.foldl ef (s,p):=fun hh=>by rw [List.take_of_length_le hh]
  generalize (l.take i).foldl ef (s,p)=x at *
  obtain ⟨x1,x2⟩:=x
  dsimp only at h2 fo hst
  obtain ⟨k4,q',tq',od',m',pr',f1,f2,f3,pa',t'⟩:=id h2
  have hbt:=t'.box
  unfold aO at hbt
  have w1:IntKind.i64.wrap ((i:Int)+1)=((i+1:Nat):Int):=by rw [aP (by omega) (by omega)];omega
  unfold xX
  rcases Nat.lt_or_ge i l.length with hlt | hge
  ·have hii:(i:Int)<l.length:=by omega
   have i0:(0:Int)≤i:=by omega
   have hsz:sz=1:=by rcases hs with h | h;exact h;subst h;simp at hlt
   subst hsz
   have hg:(af .u8 l)[i]?=some [.int .u8 (l.getD i 0)]:=by simp [af,hlt]
   have hlr:(af .u8 l).length=l.length:=by simp [af]
   have hb:=hby (l.getD i 0) (by simp [List.getD_eq_getElem?_getD,hlt])
   have hst:=hst hlt
   generalize l.getD i 0=c at *
   have hpe:(⟨m',pr',aF f1,aF f2,aF f3⟩:Pa)=x2:=by rw [pa'.m,pa'.pr,pa'.e1,pa'.e2,pa'.e3]
   have i1:=pa'.i1
   have i2:=pa'.i2
   have i3:=pa'.i3
   have pk2:=fo.2
   have v1:DV.one f1=true:=by obtain ⟨a,b,e,_⟩:=aL i1;rw [e];rfl
   have v2:DV.one f2=true:=by obtain ⟨a,b,e,_⟩:=aL i2;rw [e];rfl
   have v3:DV.one f3=true:=by obtain ⟨a,b,e,_⟩:=aL i3;rw [e];rfl
   simp -implicitDefEqProofs -dsimp only [ah,ai hbt,Mh,xG,hpe,i1,i2,i3,pk2,hb,wW,hii,i0,hg,hlr,Nat.zero_add,v1,v2,v3,gA,vcS,↓an,↓ak,simprocAttr]
   have VH:=DQ pk2 hb
   have hpk:=qH pk2 hb
   have Vw:(l.take (i+1)).foldl ef (s,p)=((cZ x2 c).2.foldl tH x1,(cZ x2 c).1):=hst
   have hlen:=DP x2 c
   generalize cZ x2 c=st at *
   obtain ⟨y,iO⟩:=st
   dsimp only at VH hpk Vw hlen ⊢
   obtain ⟨B2,tB,kB2,lB2,hB2⟩:=h2.tight [some (.box [.int .i64 y.m,.int .u8 y.pr,.sl 1 (af .i64 y.P) .any,.sl 1 (af .u8 y.I) .any,.sl 1 (af .u8 y.U) .any])]
   have hnb:=hB2 A.length _ (Nat.le_refl _) (bq _ _ _)
   have hal:(cu iO).length=iO.length:=gA _
   refine bp.inv mB (S:=fun σ:Nat × aj=>⟨[(4,.ptr (T.length+1) 0 0),(5,.ptr T1.length 0 0),(8,.ptr A.length 0 0),(23,.sl 1 (af .u8 l) sk),(24,.int .i64 l.length),(25,.int .i64 i),(39,.sl 6 (cu iO) .any),(40,.int .i64 iO.length),(41,.int .i64 σ.1)],σ.2⟩)
    (I:=fun σ=>σ.1≤iO.length∧∃pp,aB B2 σ.2 T1.length ((iO.take σ.1).foldl tH x1) pp) (μ:=fun σ=>iO.length-σ.1) (0,A++ [some (.box [.int .i64 y.m,.int .u8 y.pr,.sl 1 (af .i64 y.P) .any,.sl 1 (af .u8 y.I) .any,.sl 1 (af .u8 y.U) .any])]) ⟨by simp,_,tB⟩ ?_ ?_
   ·simp -implicitDefEqProofs -dsimp only [ax,vcS,↓an,↓ak,simprocAttr]
   ·intro ⟨j,A2⟩ ⟨g1,pp,g2⟩
    dsimp only at g1 g2 ⊢
    have aok:=vl (l:=iO.take j) fo.1
    have acR:=g2.1.at hnb (by simp)
    have w2:IntKind.i64.wrap ((j:Int)+1)=((j+1:Nat):Int):=by rw [aP (by omega) (by omega)];omega
    unfold xY
    rcases Nat.lt_or_ge j iO.length with jlt | jge
    ·obtain ⟨a,ha⟩:∃a,iO[j]?=some a:=⟨_,List.getElem?_eq_getElem jlt⟩
     have hao:=VH a (List.mem_of_getElem? ha)
     have jj:(j:Int)<iO.length:=by omega
     have j0:(0:Int)≤j:=by omega
     obtain ⟨sa,ka,ea,hsa⟩:∃sa ka,oSl .i64 a.ps=.sl sa (af .i64 (osL a.ps)) ka∧(sa=1∨osL a.ps=[]):=by
      cases a.ps with
      | none=>exact ⟨0,.nil,rfl,.inr rfl⟩
      | some l=>exact ⟨1,.any,rfl,.inl rfl⟩
     obtain ⟨sb,kb,eb⟩:∃sb kb,oSl .u8 a.is=.sl sb (af .u8 (osL a.is)) kb:=by
      cases a.is with
      | none=>exact ⟨0,.nil,rfl⟩
      | some l=>exact ⟨1,.any,rfl⟩
     have hrow:(cu iO)[j]?=some [.int .i64 a.k,.int .i32 a.r,.int .u8 a.b,.int .u8 a.p,.sl sa (af .i64 (osL a.ps)) ka,.sl sb (af .u8 (osL a.is)) kb]:=by
      rw [←ea,←eb]
      simp [cu,yO,ha]
     simp -implicitDefEqProofs -dsimp only [ah,vA,hrow,hal,jj,j0,Nat.zero_add,vcS,↓an,↓ak,simprocAttr]
     refine abq (T0:=B2) (s:=(iO.take j).foldl tH x1) (p:=pp) ⟨by have:=hao.1;omega,by have:=hao.1;omega⟩ hsa (by have:=hao.2.1;omega) hao.2.2 aok (g2.keep (aA.app _ _ _)) fun T' lt t2=>?_
     simp -implicitDefEqProofs -dsimp only [ah,vA,w2,ax,vcS,↓an,↓ak,simprocAttr]
     exact ⟨(j+1,T'),⟨rfl,aJ _⟩,⟨jlt,_,by dsimp only;rw [F7 ha];exact t2⟩,by dsimp only;omega⟩
    ·have jj:¬(j:Int)<iO.length:=by omega
     obtain rfl:j=iO.length:=by omega
     rw [List.take_length] at g2
     obtain ⟨k5,q5,tq5,od5,m5,pr5,u1,u2,u3,pa5,t5⟩:=g2
     have hb5:=t5.box
     unfold aO at hb5
     simp -implicitDefEqProofs -dsimp only [ah,ai hb5,ai acR,jj,w1,ax,vcS,↓an,↓ak,simprocAttr]
     refine ⟨(i+1,A2.set T1.length (some (.box (aO (iO.foldl tH x1) q5 tq5 od5 y.m y.pr (.sl 1 (af .i64 y.P) .any) (.sl 1 (af .u8 y.I) .any) (.sl 1 (af .u8 y.U) .any))))),⟨rfl,aJ _⟩,⟨hlt, ?_⟩,by dsimp only;omega⟩
     dsimp only
     rw [Vw]
     obtain ⟨o1',o2',o3',_⟩:=hpk
     exact (aB.mk (k5.put t5.no _) (p:=y) { m:=rfl,pr:=rfl,i1:=aQ (.inl rfl) o1',i2:=aQ (.inl rfl) o2',i3:=aQ (.inl rfl) o3',e1:=aM ..,e2:=aM ..,e3:=aM ..} (t5.put rfl rfl rfl rfl rfl)).base kB2
  ·have hii:¬(i:Int)<l.length:=by omega
   obtain rfl:i=l.length:=by omega
   have hz:=k4.at zB (by simp)
   unfold kS at hz
   have v1:DV.one f1=true:=by obtain ⟨a,b,e,_⟩:=aL pa'.i1;rw [e];rfl
   have v2:DV.one f2=true:=by obtain ⟨a,b,e,_⟩:=aL pa'.i2;rw [e];rfl
   have v3:DV.one f3=true:=by obtain ⟨a,b,e,_⟩:=aL pa'.i3;rw [e];rfl
   have vo:DV.one od'=true:=by
    rcases t'.oth with ⟨oq,e,_⟩ | ⟨_,_,_,e⟩
    ·rw [e];rfl
    ·rw [e];rfl
   have kA:aA T A []:=kB.new k4 (by simp)
   have nz:∀{j},Dd B j→j≠T.length+1:=fun {j} h e=>by subst e;exact h _ zB
   have dd:∀{j},Dd B j→Dd T j:=fun h ob e=>h ob (kB.2 _ ob (by simp) e)
   have lz:Dd T (T.length+1):=Dd.ge (by omega)
   have la:=k4.1
   simp -implicitDefEqProofs -dsimp only [ah,ai hbt,ai hz,hii,v1,v2,v3,vo,ax,vcS,↓an,↓ak,simprocAttr]
   have tz:jE T (A.set (T.length+1) (some (.box (aO x1 q' tq' od' m' pr' f1 f2 f3)))) T1.length q' tq' x1 od' m' pr' f1 f2 f3:=
    ⟨aY t'.box _ (nz t'.no),aY t'.cells _ (nz t'.nq),aY t'.aU _ (nz t'.nt),t'.oth.imp (fun ⟨oq,a,b,c,d,e,f⟩=>⟨oq,a,aY b _ (nz f),c,d,e,dd f⟩) id,t'.oq,t'.ot,t'.qt,dd t'.no,dd t'.nq,dd t'.nt⟩
   obtain ⟨v',T',hF,hv,kT,_⟩:=eE.sc (n:=0) (kA.put lz _) pa' tz fo.1
   refine ⟨by simp;omega,v',T',hF,h T' v' kT ?_⟩
   rw [←eL (Nat.le_refl _)]
   exact hv
theorem PL {on:Bool}:∀{ps:List Int} {s:Sc},aR s→ScW s→ScW (ps.foldl (dZ on) s)
 | [],s,_,w=>w
 | k::ps,s,h,w=>PL (ps:=ps) (J1 h k) (Ym h w k)
theorem ace {s:Sc}(h:aR s)(w:ScW s)(k r b pv:Int)(ps is:List Int):ScW (doF s k r b pv ps is):=by
 unfold doF
 split
 ·exact UN h w r
 split
 ·exact aaG h w b
 split
 ·exact aaC h w b
 split
 ·exact aaI h w b ps
 split
 ·split
  ·exact PL h w
  ·exact w
 ·exact w
theorem Wr:∀{l:List Ac} {s:Sc},aR s→ScW s→ScW (l.foldl tH s)
 | [],s,_,w=>w
 | a::l,s,h,w=>Wr (l:=l) (NB h _ _ _ _ _ _) (ace h w _ _ _ _ _ _)
def fX (L:List Ce)(a b:Nat):List Ce:=ct L a b (List.replicate (b-a) aN)
theorem fW {L:List Ce}{a b:Nat}(hab:a≤b)(hb:b≤L.length):(fX L a b).length=L.length:=bL hab hb (by simp)
theorem iX {L:List Ce}{a b i:Nat}(hab:a≤b)(hb:b≤L.length):(fX L a b).getD i aN=if a≤i∧i<b then aN else L.getD i aN:=by
 unfold fX
 rw [cr hab hb (by simp),gq]
 split
 ·rw [if_neg (by omega)]
 ·split
  ·rw [if_pos (by omega)]
  ·rw [if_neg (by omega)]
theorem K7 {L:List Ce}{rows aa y a b:Nat}(g:bW L rows aa)(hy:y<rows)(hab:a≤b)(hb:b≤aa):kJ L aa y a b=kD L aa y (fe (fX (cM L aa y) a b)):=by
 unfold kJ fX
 have h1:cI (a:Int) aa=a:=by unfold cI;omega
 have h2:cI (b:Int) aa=b:=by unfold cI;omega
 rw [h1,h2,Nat.max_eq_right hab]
theorem Zq {L:List Ce}{rows aa y a b:Nat}(g:bW L rows aa)(hy:y<rows)(hab:a≤b)(hb:b≤aa):y*aa+a≤y*aa+b∧y*aa+b≤L.length:=by
 have:=dc (aa:=aa) hy
 have s1:=bB y aa
 rw [g.len];omega
theorem Ux {L:List Ce}{rows aa y a b:Nat}(g:bW L rows aa)(hy:y<rows)(hab:a≤b)(hb:b≤aa):cM (fX L (y*aa+a) (y*aa+b)) aa y=fX (cM L aa y) a b:=by
 obtain ⟨h1,h2⟩:=Zq g hy hab hb
 have hl:=bK g hy
 refine gU (g.eI (fW h1 h2)) hy (by rw [fW hab (by omega),hl]) fun x hx=>?_
 rw [iX h1 h2,iX hab (by omega),cL g hy hx]
 rcases Decidable.em (a≤x∧x<b) with h | h
 ·rw [if_pos (by omega),if_pos h]
 ·rw [if_neg (by omega),if_neg h]
theorem UM {L R:List Ce}{rows aa y a b:Nat}(g:bW L rows aa)(hy:y<rows)(hab:a≤b)(hb:b≤aa)(hR:R.length=aa):kD (fX L (y*aa+a) (y*aa+b)) aa y R=kD L aa y R:=by
 obtain ⟨h1,h2⟩:=Zq g hy hab hb
 have s1:=bB y aa
 have gM:bW (fX L (y*aa+a) (y*aa+b)) rows aa:=g.eI (fW h1 h2)
 refine dH (by rw [fT gM hy hR,fT g hy hR,fW h1 h2]) fun i _=>?_
 rw [iy gM hy hR,iy g hy hR,iX h1 h2]
 rcases Nat.lt_or_ge i (y*aa) with h | h
 ·rw [if_pos h,if_pos h,if_neg (by omega)]
 ·have h0:¬i<y*aa:=by omega
  rw [if_neg h0,if_neg h0]
  rcases Nat.lt_or_ge i ((y+1)*aa) with h3 | h3
  ·rw [if_pos h3,if_pos h3]
  ·have h4:¬i<(y+1)*aa:=by omega
   rw [if_neg h4,if_neg h4,if_neg (by omega)]
theorem J4 {L:List Ce}{rows aa y a b:Nat}(g:bW L rows aa)(hy:y<rows)(hab:a≤b)(hb:b≤aa):cS (fX L (y*aa+a) (y*aa+b)) aa y=kJ L aa y a b:=by
 have hl:=bK g hy
 unfold cS
 rw [Ux g hy hab hb,K7 g hy hab hb]
 exact UM g hy hab hb (by rw [bO,fW hab (by omega),hl])
theorem Ep {L:List Ce}{rows aa y y' a b:Nat}(g:bW L rows aa)(hy:y<rows)(hy':y'<rows)(hab:a≤b)(hb:b≤aa):cM (kJ L aa y a b) aa y'=if y'=y then fe (fX (cM L aa y) a b) else cM L aa y':=by
 have hl:=bK g hy
 rw [K7 g hy hab hb,nr g hy hy' (by rw [bO,fW hab (by omega),hl])]
theorem Rc {L:List Ce}:fX L 0 L.length=List.replicate L.length aN:=by simp [fX,ct]
theorem Jg {L:List Ce}{rows aa y y':Nat}(g:bW L rows aa)(hy:y<rows)(hy':y'<rows):cM (kJ L aa y 0 aa) aa y'=if y'=y then List.replicate aa aN else cM L aa y':=by
 have hl:=bK g hy
 have e:=Ep (a:=0) (b:=aa) g hy hy' (Nat.zero_le _) (Nat.le_refl _)
 have h:fX (cM L aa y) 0 aa=List.replicate aa aN:=by have:=Rc (L:=cM L aa y);rwa [hl] at this
 rw [h,qF] at e
 exact e
theorem VN {A B:List Ce}{rows aa:Nat}(ga:bW A rows aa)(gb:bW B rows aa)(h:∀y<rows,cM A aa y=cM B aa y):A=B:=by
 refine dH (by rw [ga.len,gb.len]) fun i hi=>?_
 rw [ga.len] at hi
 have hc:=ga.c
 have hy:i / aa<rows:=(Nat.div_lt_iff_lt_mul (by omega)).2 hi
 have hx:i % aa<aa:=Nat.mod_lt _ (by omega)
 have e:i / aa*aa+i % aa=i:=by rw [Nat.mul_comm];exact Nat.div_add_mod i aa
 have:=congrArg (fun L=>L.getD (i % aa) aN) (h _ hy)
 rw [cL ga hy hx,cL gb hy hx,e] at this
 exact this
theorem v5 {L:List Ce}{rows aa y a b a' b':Nat}(g:bW L rows aa)(hy:y<rows)(hab:a≤b)(hb:b≤L.length)(ab4:a'≤b')(hb':b'≤aa)(h:∀x<aa,(a≤y*aa+x∧y*aa+x<b)↔(a'≤x∧x<b')):cM (fX L a b) aa y=fX (cM L aa y) a' b':=by
 have hl:=bK g hy
 refine gU (g.eI (fW hab hb)) hy (by rw [fW ab4 (by omega),hl]) fun x hx=>?_
 rw [iX hab hb,iX ab4 (by omega),cL g hy hx]
 have:=h x hx
 rcases Decidable.em (a'≤x∧x<b') with hh | hh
 ·rw [if_pos (this.2 hh),if_pos hh]
 ·rw [if_neg (fun e=>hh (this.1 e)),if_neg hh]
theorem S1 (L:List Ce)(a:Nat):fX L a a=L:=by simp [fX,ct]
theorem S0 {L:List Ce}{n:Nat}(h:L.length=n):fX L 0 n=List.replicate n aN:=by subst h;exact Rc
theorem Fg (s:Sc)(k:Int):jc s k=(((jc s k).toNat:Nat):Int):=by unfold jc;split <;> omega
theorem Ox (s:Sc)(k:Int):toK s k=(((toK s k).toNat:Nat):Int):=by unfold toK;split <;> omega
theorem K6 {s:Sc}(h:aR s)(k:Int):(jc s k).toNat≤(toK s k).toNat∧(toK s k).toNat≤s.aa:=by
 have:=h.x
 unfold jc toK
 split <;> split <;> omega
def BQ (s:Sc)(k:Int)(y':Nat):List Ce:=
 if y'=s.y then fe (fX (cM s.cells s.aa s.y) (jc s k).toNat (toK s k).toNat)
 else if k=2∨(k=0∧s.y<y')∨(k=1∧y'<s.y) then List.replicate s.aa aN else cM s.cells s.aa y'
theorem Eo {s:Sc}(h:aR s)(k:Int):∀n,n≤s.rows→∀y'<s.rows,cM (gD s k n) s.aa y'=if y'<n then BQ s k y' else cM s.cells s.aa y'
 | 0,_,y',_=>by rw [if_neg (by omega)];rfl
 | n+1,hn,y',hy'=>by
  have g:=xw h k n (by omega)
  have ih:=Eo h k n (by omega)
  obtain ⟨e1,e2⟩:=K6 h k
  unfold gD
  rcases Decidable.em (n=s.y) with hs | hs
  ·have e3:=ih n (by omega)
   rw [if_neg (Nat.lt_irrefl n)] at e3
   rw [if_pos hs,Fg s k,Ox s k,Ep g (by omega) hy' e1 e2,e3]
   rcases Decidable.em (y'=n) with hh | hh
   ·rw [if_pos hh,if_pos (by omega)]
    unfold BQ
    rw [if_pos (by omega),hs]
   ·rw [if_neg hh,ih y' hy']
    rcases Nat.lt_or_ge y' n with h3 | h3
    ·rw [if_pos h3,if_pos (by omega)]
    ·rw [if_neg (by omega),if_neg (by omega)]
  ·rw [if_neg hs]
   split
   ·rename_i hc
    have:=Jg g (y:=n) (y':=y') (by omega) hy'
    rw [this]
    rcases Decidable.em (y'=n) with hh | hh
    ·rw [if_pos hh,if_pos (by omega)]
     unfold BQ
     rw [if_neg (by omega),if_pos (by rw [hh];exact hc)]
    ·rw [if_neg hh,ih y' hy']
     rcases Nat.lt_or_ge y' n with h3 | h3
     ·rw [if_pos h3,if_pos (by omega)]
     ·rw [if_neg (by omega),if_neg (by omega)]
   ·rename_i hc
    rw [ih y' hy']
    rcases Decidable.em (y'=n) with hh | hh
    ·rw [if_neg (by omega),if_pos (by omega)]
     unfold BQ
     rw [if_neg (by omega),if_neg (by rw [hh];exact hc)]
    ·rcases Nat.lt_or_ge y' n with h3 | h3
     ·rw [if_pos h3,if_pos (by omega)]
     ·rw [if_neg (by omega),if_neg (by omega)]
def lJ (s:Sc)(row:Bool)(k:Int):Nat:=if k=0 then s.y*s.aa+s.x else if row=true then s.y*s.aa else 0
def k9 (s:Sc)(row:Bool)(k:Int):Nat:=if k=1 then s.y*s.aa+s.x+1 else if row=true then (s.y+1)*s.aa else s.rows*s.aa
theorem Zl {s:Sc}(h:aR s)(row:Bool)(k:Int):lJ s row k≤k9 s row k∧k9 s row k≤s.cells.length:=by
 have h1:=dc (aa:=s.aa) h.y
 have h2:=bB s.y s.aa
 have h3:=h.x
 have h4:=h.g.len
 unfold lJ k9
 split <;> split <;> (try split) <;> (try split) <;> omega
theorem MX {L:List Ce}{rows aa y y':Nat}(g:bW L rows aa)(hy:y<rows)(hy':y'<rows):cM (cS L aa y) aa y'=if y'=y then fe (cM L aa y) else cM L aa y':=by
 unfold cS
 rw [nr g hy hy' (by rw [bO,bK g hy])]
theorem K9 {s:Sc}:lJ s false 0=s.y*s.aa+s.x∧k9 s false 0=s.rows*s.aa∧(jc s 0).toNat=s.x∧(toK s 0).toNat=s.aa:=by simp [lJ,k9,jc,toK]
theorem K8 {s:Sc}:lJ s false 1=0∧k9 s false 1=s.y*s.aa+s.x+1∧(jc s 1).toNat=0∧(toK s 1).toNat=s.x+1:=by simp [lJ,k9,jc,toK]
theorem SM {s:Sc}:lJ s false 2=0∧k9 s false 2=s.rows*s.aa∧(jc s 2).toNat=0∧(toK s 2).toNat=s.aa:=by simp [lJ,k9,jc,toK]
theorem Sd {s:Sc}(h:aR s)(row:Bool){k:Int}(hk:0≤k∧k≤2):{ s with wrap:=false,cells:=cS (fX s.cells (lJ s row k) (k9 s row k)) s.aa s.y}=fL s row k:=by
 have h1:=dc (aa:=s.aa) h.y
 have h2:=bB s.y s.aa
 have h3:=h.x
 have h4:=h.g.len
 obtain ⟨e1,e2⟩:=K6 h k
 obtain ⟨e3,e4⟩:=Zl h row k
 unfold fL
 rw [if_pos hk]
 congr 1
 cases row with
 | true=>
  rw [if_pos rfl]
  have ea:lJ s true k=s.y*s.aa+(jc s k).toNat:=by rcases Decidable.em (k=0) with e | e <;> simp [lJ,jc,e]
  have eb:k9 s true k=s.y*s.aa+(toK s k).toNat:=by rcases Decidable.em (k=1) with e | e <;> simp [k9,toK,e] <;> omega
  rw [ea,eb,J4 h.g h.y e1 e2,←Fg,←Ox]
 | false=>
  rw [if_neg (by simp)]
  have gb:bW (fX s.cells (lJ s false k) (k9 s false k)) s.rows s.aa:=h.g.eI (fW e3 e4)
  refine VN (rows:=s.rows) (gb.eI (gw gb h.y)) (xw h k s.rows (Nat.le_refl _)) fun y' hy'=>?_
  rw [Eo h k s.rows (Nat.le_refl _) y' hy',if_pos hy',MX gb h.y hy']
  have s2:=bB y' s.aa
  have s3:=dc (aa:=s.aa) hy'
  unfold BQ
  rcases Decidable.em (y'=s.y) with hh | hh
  ·rw [if_pos hh,if_pos hh]
   congr 1
   refine v5 h.g h.y e3 e4 e1 e2 fun x hx=>?_
   rcases (show k=0∨k=1∨k=2 by omega) with rfl | rfl | rfl
   ·rw [K9.1,K9.2.1,K9.2.2.1,K9.2.2.2];omega
   ·rw [K8.1,K8.2.1,K8.2.2.1,K8.2.2.2];omega
   ·rw [SM.1,SM.2.1,SM.2.2.1,SM.2.2.2];omega
  ·rw [if_neg hh,if_neg hh]
   have lo:y'<s.y→(y'+1)*s.aa≤s.y*s.aa:=fun h=>Nat.mul_le_mul_right _ h
   have hi:s.y<y'→(s.y+1)*s.aa≤y'*s.aa:=fun h=>Nat.mul_le_mul_right _ h
   split
   ·rename_i hc
    rw [v5 (a':=0) (b':=s.aa) h.g hy' e3 e4 (by omega) (Nat.le_refl _),S0 (bK h.g hy')]
    intro x hx
    rcases hc with rfl | ⟨rfl,hc⟩ | ⟨rfl,hc⟩
    ·rw [SM.1,SM.2.1];omega
    ·have:=hi hc
     rw [K9.1,K9.2.1];omega
    ·have:=lo hc
     rw [K8.1,K8.2.1];omega
   ·rename_i hc
    rw [v5 (a':=0) (b':=0) h.g hy' e3 e4 (by omega) (by omega),S1]
    intro x hx
    rcases (show k=0∨k=1 by omega) with rfl | rfl
    ·have:=lo (by omega)
     rw [K9.1,K9.2.1];omega
    ·have:=hi (by omega)
     rw [K8.1,K8.2.1];omega
end Go.Proofs.YtjmnbpilnneonaaGreatDoor
