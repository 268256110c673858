/- Texts H9, H10, H11 in one. -/
import Derived.Test.YtjmnbpilnneonaaGreatDoorN3
import Derived.Test.YtjmnbpilnneonaaGreatDoorM3
import Derived.Test.YtjmnbpilnneonaaGreatDoorN5
import Derived.Test.YtjmnbpilnneonaaGreatDoorN6
set_option linter.unusedVariables false
set_option linter.unusedSimpArgs false
set_option maxRecDepth 10000
namespace Go.Proofs.YtjmnbpilnneonaaGreatDoor
open Go.RowKit
noncomputable def xW:RC:=(SR [BT 12 .lss 11 10] [0,5,10,11,12] (.seq (.cond (.t 12) .skip (.ext 0)) (.seq (.blk 1 (SR [MV 13 11,MV 6 13] [0,5,6,10,11] (SR [MV 14 5,MV 15 6,MV 16 6,BI 17 .rem 16 8,BI 18 .eql 17 0,OP 19 (.aT 1 (.t 14) (.t 15)),SA 1 19 18] [0,5,6,10,11] (SR [MV 20 6,MV 21 0,OP 22 (.len (.t 21)),BT 23 .lss 20 22] [0,5,6,10,11,23] (.cond (.t 23) (.reg [MV 24 5,MV 25 6,MV 26 0,MV 27 6,OP 28 (.aT 1 (.t 26) (.t 27)),LD 29 28,OP 30 (.aT 1 (.t 24) (.t 25)),SA 1 30 29] 0 [0,5,10,11]) .skip))))) (.reg [BI 31 .add 11 1,MV 11 31] 0 [0,5,10,11]))))
noncomputable def AJ:RFn:=⟨2,33,(SR [OP 4 (.mov (.c (.sl 0 [] .nil)))] [0,1] (SR [MV 7 1,OP 8 (.fO 1 1 [.bool false] (.t 7) (.t 7)),MV 5 8] [0,5] (.seq (SR [MV 9 5,OP 10 (.len (.t 9)),OP 11 (.mov (.c (.int .i64 0)))] [0,5,10,11] (.blk 0 (.loop xW))) (SR [MV 32 5,MV 4 32] [4] .ret)))),[.t 4]⟩
theorem Jw:aK PG.P [⟨0,0,[0,1],[]⟩,⟨1,0,[0,5],[]⟩,⟨2,0,[0,5,10,11],[]⟩,⟨3,0,[0,5,10,11,12],[]⟩,⟨4,0,[0,5,6,10,11],[]⟩,⟨5,0,[0,5,6,10,11],[]⟩,⟨6,0,[0,5,6,10,11,23],[]⟩,⟨7,0,[0,5,10,11],[]⟩,⟨8,0,[0,5,10,11],[]⟩,⟨9,0,[4],[]⟩] 39=some AJ:=by kernel_rfl
noncomputable def l8:RFn:=⟨2,31,(SR [OP 4 (.alloc [.int .i64 0,.int .i64 0,.sl 0 [] .nil,.int .i64 0,.int .i64 0,.bool false,.int .u16 0,.int .i64 0,.int .i64 0,.sl 0 [] .nil,.int .i64 0,.int .i64 0,.int .u16 0,.bool false,.bool false,.bool false,.sl 0 [] .nil,.int .i64 0,.int .i64 0,.int .i64 0,.int .u8 0,.sl 0 [] .nil,.sl 0 [] .nil,.sl 0 [] .nil]),OP 5 (.mov (.c (.int .i64 0)))] [0,1,4] (.seq (SR [MV 6 0,BI 7 .lss 6 1,MV 8 7,MG 9 0 8 false,OG 10 (.bin .gtr (.t 9) (.c (.int .i64 1000))) 8 false,OP 11 (.pick (.t 8) (.c (.bool true)) (.t 10)),MV 12 11,MG 13 1 12 false,OG 14 (.bin .lss (.t 13) (.c (.int .i64 1))) 12 false,OP 15 (.pick (.t 12) (.c (.bool true)) (.t 14)),MV 16 15,MG 17 1 16 false,OG 18 (.bin .gtr (.t 17) (.c (.int .i64 1000))) 16 false,OP 19 (.pick (.t 16) (.c (.bool true)) (.t 18))] [0,1,4,19] (.cond (.t 19) (SR [OP 20 (.build [.int .i64 0,.int .i64 0,.sl 0 [] .nil,.int .i64 0,.int .i64 0,.bool false,.int .u16 0,.int .i64 0,.int .i64 0,.sl 0 [] .nil,.int .i64 0,.int .i64 0,.int .u16 0,.bool false,.bool false,.bool false,.sl 0 [] .nil,.int .i64 0,.int .i64 0,.int .i64 0,.int .u8 0,.sl 0 [] .nil,.sl 0 [] .nil,.sl 0 [] .nil] []),SA 24 4 20,OP 5 (.mov (.c (.int .i64 26)))] [4,5] .ret) .skip)) (SR [MV 21 0,MV 22 1,MV 23 0,MV 24 1,OP 25 (.call 38 [.t 23,.t 24]),MV 26 0,BI 27 .sub 26 1,MV 28 1,OP 29 (.call 39 [.c (.sl 0 [] .nil),.t 28]),OP 30 (.build [.int .i64 0,.int .i64 0,.sl 0 [] .nil,.int .i64 0,.int .i64 0,.bool false,.int .u16 0,.int .i64 0,.int .i64 0,.sl 0 [] .nil,.int .i64 0,.int .i64 0,.int .u16 0,.bool false,.bool false,.bool false,.sl 0 [] .nil,.int .i64 0,.int .i64 0,.int .i64 0,.int .u8 0,.sl 0 [] .nil,.sl 0 [] .nil,.sl 0 [] .nil] [(0,(1,(.t 21))),(1,(1,(.t 22))),(2,(1,(.t 25))),(8,(1,(.t 27))),(9,(1,(.t 29))),(13,(1,(.c (.bool true)))),(14,(1,(.c (.bool true))))]),SA 24 4 30,OP 5 (.mov (.c (.int .i64 0)))] [4,5] .ret))),[.c 4 true 24,.t 5]⟩
theorem pM:aK PG.P [⟨0,0,[0,1,4],[]⟩,⟨1,0,[0,1,4,19],[]⟩,⟨2,0,[4,5],[]⟩,⟨3,0,[4,5],[]⟩] 16=some l8:=by kernel_rfl
def e7 (was:List Bool)(n i:Nat):List Bool:=(List.range n).map fun x=>if x<i then (if x<was.length then was.getD x false else decide (x % 8=0)) else false
theorem MO (was:List Bool)(n i:Nat):(e7 was n i).length=n:=by simp [e7]
theorem T8 (was:List Bool)(n:Nat):e7 was n 0=List.replicate n false:=by
 refine List.ext_getElem (by simp [e7]) fun i h1 h2=>?_
 simp [e7]
theorem zZ (n:Nat):e7 [] n n=lZ n:=by
 refine List.ext_getElem (by simp [e7,lZ]) fun i h1 h2=>?_
 simp [e7] at h1
 simp [e7,lZ,h1]
theorem xK {was:List Bool}{n i:Nat}(hi:i<n)(b:Bool)(hb:b=if i<was.length then was.getD i false else decide (i % 8=0)):(e7 was n i).set i b=e7 was n (i+1):=by
 refine List.ext_getElem (by simp [e7]) fun j h1 h2=>?_
 rw [List.getElem_set]
 simp only [e7,List.getElem_map,List.getElem_range]
 by_cases e:i=j
 ·subst e;rw [if_pos rfl,if_pos (by omega),hb]
 ·rw [if_neg e]
  by_cases h:j<i
  ·simp [h,show j<i+1 by omega]
  ·simp [h,show ¬j<i+1 by omega]
theorem OF {T:aj}{sz:Nat}{sk:SK}{was:List Bool}{n:Nat}{K:DV→aj→Prop}(hs:sz=1∨was=[])(hn:1≤n∧n≤1000)(h:∀T' p,T.length≤p→T'[p]?=some (some (.arr 1 (bn (e7 was n n))))→aA T T' []→K (.own p 0 n) T') :
  aq PG 39 [.sl sz (bn was) sk,.int .i64 n] T K:=by
 refine aq.aE FOk.nil Jw (by simp [AJ]) ?_
 unfold AJ
 dsimp only
 have n0:(0:Int)≤n:=by omega
 simp -implicitDefEqProofs -dsimp only [ah,oJ,bC,vcS,↓an,↓ak,simprocAttr]
 have hb1:(n:Int)*1≤140737488355328∧(n:Int)≤4611686018427387904:=by omega
 refine ⟨⟨n0,Int.le_refl _,hb1.1,hb1.2⟩, ?_⟩
 refine bp.inv FOk.nil (S:=fun i:Nat=>⟨[(0,.sl sz (bn was) sk),(5,.own T.length 0 n),(10,.int .i64 n),(11,.int .i64 i)],T++ [some (.arr 1 (bn (e7 was n i)))]⟩)
  (I:=fun i=>i≤n) (μ:=fun i=>n-i) 0 (by omega) ?_ ?_
 ·simp -implicitDefEqProofs -dsimp only [ax,T8,vcS,↓an,↓ak,simprocAttr]
 ·intro i hi
  unfold xW
  have hlen:=MO was n i
  by_cases hlt:i<n
  ·have hii:(i:Int)<n:=by omega
   have hi0:(0:Int)≤i:=by omega
   have hw1:IntKind.i64.wrap ((i:Int)+1)=((i+1:Nat):Int):=by rw [aP (by omega) (by omega)];omega
   have hm:decide ((i:Int).tmod 8=0)=decide (i % 8=0):=by
    rw [decide_eq_decide,Int.tmod_eq_emod_of_nonneg hi0];omega
   have hg:=fc (L:=e7 was n i) (i:=i) (by omega)
   have hs0:=iW (e7 was n i) i (decide (i % 8=0))
   have hg2:=fc (L:=(e7 was n i).set i (decide (i % 8=0))) (i:=i) (by simp;omega)
   by_cases Ys:i<was.length
   ·have Vv:(i:Int)<was.length:=by omega
    have hsz:sz=1:=by rcases hs with h | h;exact h;subst h;simp at Ys
    have hgw:=fc Ys
    have hs1:=iW ((e7 was n i).set i (decide (i % 8=0))) i (was.getD i false)
    have cv:((e7 was n i).set i (decide (i % 8=0))).set i (was.getD i false)=e7 was n (i+1):=by
     rw [List.set_set]
     exact xK hlt _ (by rw [if_pos Ys])
    rw [cv] at hs1
    subst hsz
    simp -implicitDefEqProofs -dsimp only [ah,bC,hlen,hii,hi0,hw1,hm,hg,hg2,hs0,hs1,hgw,Vv,ax,Nat.zero_add,List.length_set,vcS,↓an,↓ak,simprocAttr]
    exact ⟨i+1,⟨rfl,aJ _⟩,hlt,by omega⟩
   ·have Vv:¬(i:Int)<was.length:=by omega
    have cv:(e7 was n i).set i (decide (i % 8=0))=e7 was n (i+1):=xK hlt _ (by rw [if_neg Ys])
    rw [cv] at hs0
    simp -implicitDefEqProofs -dsimp only [ah,bC,hlen,hii,hi0,hw1,hm,hg,hs0,Vv,ax,Nat.zero_add,vcS,↓an,↓ak,simprocAttr]
    exact ⟨i+1,⟨rfl,aJ _⟩,hlt,by omega⟩
  ·have hii:¬(i:Int)<n:=by omega
   obtain rfl:i=n:=by omega
   simp -implicitDefEqProofs -dsimp only [ah,hii,ax,vcS,↓an,↓ak,simprocAttr]
   exact h _ _ (Nat.le_refl _) (bq _ _ _) (aA.app _ _ _)
def Ds (rows aa q tq:Nat):DV:=.agg (aO (newF rows aa) q tq (.sl 0 [] .nil) 0 0 (.sl 0 [] .nil) (.sl 0 [] .nil) (.sl 0 [] .nil))
theorem XW {T:aj}{r c:Nat}{K:DV→aj→Prop}(hr:1≤r∧r≤1000)(hc:1≤c∧c≤1000)
  (h:∀T' q tq,T.length≤q→T.length≤tq→q≠tq→T'[q]?=some (some (.arr 3 (av (dL r c))))→T'[tq]?=some (some (.arr 1 (bn (lZ c))))→aA T T' []→K (.tup [Ds r c q tq,.int .i64 0]) T') :
  aq PG 16 [.int .i64 r,.int .i64 c] T K:=by
 refine aq.aE FOk.nil pM (by simp [l8]) ?_
 unfold l8
 dsimp only
 have r1:¬(r:Int)<1:=by omega
 have r2:¬(1000:Int)<r:=by omega
 have c1:¬(c:Int)<1:=by omega
 have c2:¬(1000:Int)<c:=by omega
 simp -implicitDefEqProofs -dsimp only [ah,r1,r2,c1,c2,vcS,↓an,↓ak,simprocAttr]
 refine BH hr hc fun T1 q hq hA k1=>?_
 have w1:IntKind.i64.wrap ((r:Int)-1)=((r-1:Nat):Int):=by rw [aP (by omega) (by omega)];omega
 have hb:=k1.at (bq T [] (some (Ob.box _))) (by simp)
 simp -implicitDefEqProofs -dsimp only [ah,r1,r2,c1,c2,w1,vcS,↓an,↓ak,simprocAttr]
 refine OF (was:=[]) (.inr rfl) hc fun T2 tq htq hB k2=>?_
 simp -implicitDefEqProofs -dsimp only [ah,r1,r2,c1,c2,w1,ai (k2.at hb (by simp)),vcS,↓an,↓ak,simprocAttr]
 have l1:=k1.1
 have l2:=k2.1
 simp only [List.length_append,List.length_cons,List.length_nil] at l1 hq
 have kk:aA T T2 []:=((aA.app T _ []).new k1 (by simp)).new k2 (by simp)
 have e:Ds r c q tq=.agg [.int .i64 r,.int .i64 c,.own q 0 (r*c),.int .i64 0,.int .i64 0,.bool false,.int .u16 0,.int .i64 0,.int .i64 ((r-1:Nat):Int),.own tq 0 c,.int .i64 0,.int .i64 0,.int .u16 0,.bool true,.bool true,.bool false,.sl 0 [] .nil,.int .i64 0,.int .i64 0,.int .i64 0,.int .u8 0,.sl 0 [] .nil,.sl 0 [] .nil,.sl 0 [] .nil]:=by
  simp [Ds,aO,newF,dL,qI]
 have lq:=eB hA
 refine ⟨by simp;omega, ?_⟩
 have:=h (T2.set T.length (some (.box (aO (newF r c) q tq (.sl 0 [] .nil) 0 0 (.sl 0 [] .nil) (.sl 0 [] .nil) (.sl 0 [] .nil))))) q tq (by omega) (by omega) (by omega) (aY (k2.at hA (by simp)) _ (by omega)) (by rw [zZ] at hB;exact aY hB _ (by omega)) (kk.new (aA.set T2 T.length _) (by simp))
 have e2:aO (newF r c) q tq (.sl 0 [] .nil) 0 0 (.sl 0 [] .nil) (.sl 0 [] .nil) (.sl 0 [] .nil)=_:=DV.agg.inj e
 rw [e,e2] at this
 exact this
theorem Ud {T:aj}{r c:Int}{K:DV→aj→Prop}(hn:¬(1≤r∧r≤1000∧1≤c∧c≤1000))
  (h:∀T',aA T T' []→K (.tup [.agg [.int .i64 0,.int .i64 0,.sl 0 [] .nil,.int .i64 0,.int .i64 0,.bool false,.int .u16 0,.int .i64 0,.int .i64 0,.sl 0 [] .nil,.int .i64 0,.int .i64 0,.int .u16 0,.bool false,.bool false,.bool false,.sl 0 [] .nil,.int .i64 0,.int .i64 0,.int .i64 0,.int .u8 0,.sl 0 [] .nil,.sl 0 [] .nil,.sl 0 [] .nil],.int .i64 26]) T') :
  aq PG 16 [.int .i64 r,.int .i64 c] T K:=by
 refine aq.aE FOk.nil pM (by simp [l8]) ?_
 unfold l8
 dsimp only
 simp -implicitDefEqProofs -dsimp only [ah,vcS,↓an,↓ak,simprocAttr]
 refine ⟨fun _=>h _ (aA.app _ _ _),fun _=>⟨fun _=>h _ (aA.app _ _ _),fun _=>⟨fun _=>h _ (aA.app _ _ _),fun _=>⟨fun _=>h _ (aA.app _ _ _),fun _=>by omega⟩⟩⟩⟩
noncomputable def jL:RFn:=⟨2,96,.seq (SR [MV 4 1,MV 5 0,OP 6 (.aC (.t 5)),FA 7 0 6,FA 8 15 7,LD 9 8,OP 10 (.eqB false (.t 4) (.t 9))] [0,1,10] (.cond (.t 10) .ret .skip)) (.seq (SR [MV 11 1] [0,1,11] (.cond (.t 11) (.cK (.take (MV 12 0) [] (.take (MV 13 0) [] (.take (MV 14 0) [] (.take (MV 15 0) [] (.take (MV 16 0) [] (.take (OP 17 (.aC (.t 16))) [] (.take (FA 18 0 17) [] (.take (FA 19 2 18) [] (.take (LD 20 19) [] (.take (MV 21 0) [] (.take (OP 22 (.aC (.t 21))) [] (.take (FA 23 0 22) [] (.take (FA 24 3 23) [] (.take (LD 25 24) [] (.take (MV 26 0) [] (.take (OP 27 (.aC (.t 26))) [] (.take (FA 28 0 27) [] (.take (FA 29 4 28) [] (.take (LD 30 29) [] (.take (MV 31 0) [] (.take (OP 32 (.aC (.t 31))) [] (.take (FA 33 0 32) [] (.take (FA 34 0 33) [] (.take (LD 35 34) [] (.take (MV 36 0) [] (.take (OP 37 (.aC (.t 36))) [] (.take (FA 38 0 37) [] (.take (FA 39 1 38) [] (.take (LD 40 39) [] (.op (OP 41 (.call 38 [.t 35,.t 40])) (.take (OP 42 (.aC (.t 12))) [] (.take (FA 43 0 42) [] (.take (FA 44 16 43) [] (.op (SA 1 44 20) (.take (OP 45 (.aC (.t 13))) [] (.take (FA 46 0 45) [] (.take (FA 47 17 46) [] (.op (SA 1 47 25) (.take (OP 48 (.aC (.t 14))) [] (.take (FA 49 0 48) [] (.take (FA 50 18 49) [] (.op (SA 1 50 30) (.take (OP 51 (.aC (.t 15))) [] (.take (FA 52 0 51) [] (.take (FA 53 2 52) [] (.op (SA 1 53 41) .done)))))))))))))))))))))))))))))))))))))))))))))) 0 [0,1]) (SR [MV 54 0,MV 55 0,MV 56 0,OP 57 (.aC (.t 56)),FA 58 0 57,FA 59 16 58,LD 60 59,OP 61 (.aC (.t 54)),FA 62 0 61,FA 63 2 62,SA 1 63 60,OP 64 (.aC (.t 55)),FA 65 0 64,FA 66 16 65,NP (.store 1 (.t 66) (.c (.sl 0 [] .nil)))] [0,1] (.seq (.cK (.take (MV 67 0) [] (.take (MV 68 0) [] (.take (OP 69 (.aC (.t 68))) [] (.take (FA 70 0 69) [] (.take (FA 71 17 70) [] (.take (LD 72 71) [] (.take (MV 73 0) [] (.take (OP 74 (.aC (.t 73))) [] (.take (FA 75 0 74) [] (.take (FA 76 18 75) [] (.take (LD 77 76) [] (.mid (OP 78 (.call 100 [.t 67,.t 72,.t 77])) .done)))))))))))) 0 [0,1]) (.reg [MV 79 0,MV 80 0,OP 81 (.aC (.t 79)),FA 82 0 81,FA 83 17 82,NP (.store 1 (.t 83) (.c (.int .i64 0))),OP 84 (.aC (.t 80)),FA 85 0 84,FA 86 18 85,NP (.store 1 (.t 86) (.c (.int .i64 0)))] 0 [0,1]))))) (.reg [MV 87 0,MV 88 0,MV 89 1,OP 90 (.aC (.t 87)),FA 91 0 90,FA 92 15 91,SA 1 92 89,OP 93 (.aC (.t 88)),FA 94 0 93,FA 95 5 94,NP (.store 1 (.t 95) (.c (.bool false)))] 0 [])),[]⟩
theorem om:aK PG.P [⟨0,0,[0,1,10],[]⟩,⟨1,0,[0,1,11],[]⟩,⟨2,0,[0,1],[]⟩,⟨3,0,[0,1],[]⟩,⟨4,0,[0,1],[]⟩,⟨5,0,[0,1],[]⟩,⟨6,0,[],[]⟩] 109=some jL:=by kernel_rfl
theorem VQ {rows aa:Nat}(h1:1≤rows∧rows≤1000)(h2:1≤aa∧aa≤1000):az PG 38 [.int .i64 rows,.int .i64 aa] fun n r os=>r=.own n 0 (rows*aa)∧os=[some (.arr 3 (av (dL rows aa)))]:=
 az.abC (res:=fun n=>(.own n 0 (rows*aa),[some (.arr 3 (av (dL rows aa)))])) fun n T _=>BH h1 h2 fun T' p hp hc k=>UB hc (lT _)
def qz:List DV→Option aS
 | [.int .i64 r,.int .i64 c]=>some ⟨1≤r∧r≤1000∧1≤c∧c≤1000,fun n=>(.own n 0 (r.toNat*c.toNat),[some (.arr 3 (av (dL r.toNat c.toNat)))])⟩
 | _=>none
theorem CV (r c:Int):qz [.int .i64 r,.int .i64 c]=some ⟨1≤r∧r≤1000∧1≤c∧c≤1000,fun n=>(.own n 0 (r.toNat*c.toNat),[some (.arr 3 (av (dL r.toNat c.toNat)))])⟩:=au _
theorem SH (args:List DV)(s:aS)(hs:qz args=some s)(hp:s.pre):az PG 38 args fun n r os=>r=(s.res n).1∧os=(s.res n).2:=by
 unfold qz at hs
 split at hs
 ·rename_i r c
  obtain rfl:=sj hs
  obtain ⟨h1,h2,h3,h4⟩:=hp
  have:=VQ (rows:=r.toNat) (aa:=c.toNat) (by omega) (by omega)
  rwa [Int.toNat_of_nonneg (by omega),Int.toNat_of_nonneg (by omega)] at this
 ·cases hs
def aaW:FL:=[(38,.o qz)]
theorem HW:FOk PG (tab aaW):=FOk.cons FOk.nil SH
theorem Rh (args:List DV):tab aaW 38 args=(qz args).map .o:=au _
theorem WB (args:List DV):tab aaW 100 args=none:=au _
def s7 (on:Bool)(s:Sc):Sc:=
 if on=true∧s.alt=false then { s with other:=s.cells,oy:=s.y,ox:=s.x,alt:=true,wrap:=false,cells:=dL s.rows s.aa}
 else if on=false∧s.alt=true then { s with cells:=s.other,y:=s.oy,x:=s.ox,alt:=false,wrap:=false,other:=[],oy:=0,ox:=0}
 else s
theorem RM {T0 T:aj}{o:Nat}{s:Sc}{p:Pa}{K:DV→aj→Prop}(ha:s.alt=false)(ok:aR s)(h:aB T0 T o s p)(hK:∀T',T.length≤T'.length→aB T0 T' o { s with other:=s.cells,oy:=s.y,ox:=s.x,alt:=true,wrap:=false,cells:=dL s.rows s.aa} p→K (.tup []) T') :
  aq PG 109 [.ptr o 0 0,.bool true] T K:=by
 obtain ⟨k0,q,tq,od,m,pr,d1,d2,d3,pa,t⟩:=id h
 have hb:=t.box
 unfold aO at hb
 rw [ha] at hb
 have hr:=ok.g.r
 have hc:=ok.g.c
 refine aq.aE HW om (by simp [jL]) ?_
 unfold jL
 dsimp only
 have r1:1≤(s.rows:Int)∧(s.rows:Int)≤1000∧1≤(s.aa:Int)∧(s.aa:Int)≤1000:=by omega
 simp -implicitDefEqProofs -dsimp only [ah,ai hb,Rh,CV,r1,Int.toNat_natCast,List.set_set,vcS,↓an,↓ak,simprocAttr]
 have lo:=eB t.box
 have lc:=eB t.cells
 have lt:=eB t.aU
 have l0:=k0.1
 have tt:jE T0 (T.set o (some (.box (aO { s with other:=s.cells,oy:=s.y,ox:=s.x,alt:=true,wrap:=false,cells:=dL s.rows s.aa} T.length tq (.own q 0 s.cells.length) m pr d1 d2 d3)))++ [some (.arr 3 (av (dL s.rows s.aa)))]) o T.length tq { s with other:=s.cells,oy:=s.y,ox:=s.x,alt:=true,wrap:=false,cells:=dL s.rows s.aa} (.own q 0 s.cells.length) m pr d1 d2 d3:=
  ⟨MN t.box _ _,zX _ _ _ _ _,gO (aY t.aU _ t.ot.symm) _,.inl ⟨q,rfl,gO (aY t.cells _ t.oq.symm) _,t.oq.symm,by omega,t.qt,t.nq⟩,by omega,t.ot,by omega,t.no,Dd.ge (by omega),t.nt⟩
 have e:(dL s.rows s.aa).length=s.rows*s.aa:=by simp [dL]
 have fin:=hK _ (by simp) (.mk ((k0.put t.no _).eD _) pa tt)
 unfold aO at fin
 dsimp only at fin
 rw [e] at fin
 exact ⟨by simp,fin⟩
theorem MJ {T0 T:aj}{o:Nat}{s:Sc}{p:Pa}{K:DV→aj→Prop}(ha:s.alt=true)(ok:aR s)(h:aB T0 T o s p)(hK:∀T',T.length≤T'.length→aB T0 T' o { s with cells:=s.other,y:=s.oy,x:=s.ox,alt:=false,wrap:=false,other:=[],oy:=0,ox:=0} p→K (.tup []) T') :
  aq PG 109 [.ptr o 0 0,.bool false] T K:=by
 obtain ⟨k0,q,tq,od,m,pr,d1,d2,d3,pa,t⟩:=id h
 rcases t.oth with ⟨oq,rfl,hoq,n1,n2,n3,n4⟩ | ⟨h0,_⟩
 rotate_left
 ·rw [ha] at h0;cases h0
 have hb:=t.box
 unfold aO at hb
 rw [ha] at hb
 have hr:=ok.g.r
 have hc:=ok.g.c
 refine aq.aE HW om (by simp [jL]) ?_
 unfold jL
 dsimp only
 simp -implicitDefEqProofs -dsimp only [ah,ai hb,Rh,WB,CV,List.set_set,vcS,↓an,↓ak,simprocAttr]
 have hb1:(T.set o (some (.box (aO { s with cells:=s.other} oq tq (.sl 0 [] .nil) m pr d1 d2 d3))))[o]?=some (some (.box (aO { s with cells:=s.other} oq tq (.sl 0 [] .nil) m pr d1 d2 d3))):=bX t.box _
 have hb0:=hb1
 unfold aO at hb0
 simp only [ha] at hb0
 have hoy:=ok.oy
 have hox:=ok.ox
 have ey:min (s.oy:Int).toNat (s.rows-1)=s.oy:=by omega
 have ex:min (s.ox:Int).toNat (s.aa-1)=s.ox:=by omega
 refine Za (s:={ s with cells:=s.other,alt:=true}) (q:=oq) (tq:=tq) (od:=.sl 0 [] .nil) (m:=m) (pr:=pr) (d1:=d1) (d2:=d2) (d3:=d3) hr hc (bX t.box _) ?_
 rw [List.set_set]
 have hb2:(T.set o (some (.box (aO (toP { s with cells:=s.other,alt:=true} s.oy s.ox) oq tq (.sl 0 [] .nil) m pr d1 d2 d3))))[o]?=some (some (.box (aO (toP { s with cells:=s.other,alt:=true} s.oy s.ox) oq tq (.sl 0 [] .nil) m pr d1 d2 d3))):=bX t.box _
 unfold aO toP at hb2 ⊢
 simp only [ey,ex] at hb2 ⊢
 simp -implicitDefEqProofs -dsimp only [ah,ai hb2,bX t.box,List.set_set,vcS,↓an,↓ak,simprocAttr]
 have lo:=eB t.box
 have l0:=k0.1
 have tt:jE T0 (T.set o (some (.box (aO { s with cells:=s.other,y:=s.oy,x:=s.ox,alt:=false,wrap:=false,other:=[],oy:=0,ox:=0} oq tq (.sl 0 [] .nil) m pr d1 d2 d3)))) o oq tq { s with cells:=s.other,y:=s.oy,x:=s.ox,alt:=false,wrap:=false,other:=[],oy:=0,ox:=0} (.sl 0 [] .nil) m pr d1 d2 d3:=
  ⟨bX t.box _,aY hoq _ n1,aY t.aU _ t.ot.symm,.inr ⟨rfl,0,.nil,rfl⟩,n1.symm,t.ot,n3,t.no,n4,t.nt⟩
 exact ⟨by simp,hK _ (by simp) (.mk (k0.put t.no _) pa tt)⟩
theorem TP {T0 T:aj}{o:Nat}{s:Sc}{p:Pa}{on:Bool}{K:DV→aj→Prop}(ok:aR s)(h:aB T0 T o s p)(hK:∀T',T.length≤T'.length→aB T0 T' o (s7 on s) p→K (.tup []) T'):aq PG 109 [.ptr o 0 0,.bool on] T K:=by
 have same:∀b:Bool,s.alt=b→K (.tup []) T→aq PG 109 [.ptr o 0 0,.bool b] T K:=fun b hab hk=>by
  obtain ⟨k0,q,tq,od,m,pr,d1,d2,d3,pa,t⟩:=id h
  have hb:=t.box
  unfold aO at hb
  rw [hab] at hb
  cases b
  all_goals
   refine aq.aE HW om (by simp [jL]) ?_
   unfold jL
   dsimp only
   simp -implicitDefEqProofs -dsimp only [ah,ai hb,vcS,↓an,↓ak,simprocAttr]
   exact hk
 cases ha:s.alt with
 | false=>cases on with
  | true=>exact RM ha ok h (by unfold s7 at hK;rw [if_pos ⟨rfl,ha⟩] at hK;exact hK)
  | false=>exact same false ha (hK _ (Nat.le_refl _) (by unfold s7;rw [if_neg (by simp),if_neg (by simp [ha])];exact h))
 | true=>cases on with
  | true=>exact same true ha (hK _ (Nat.le_refl _) (by unfold s7;rw [if_neg (by simp [ha]),if_neg (by simp)];exact h))
  | false=>exact MJ ha ok h (by unfold s7 at hK;rw [if_neg (by simp),if_pos ⟨rfl,ha⟩] at hK;exact hK)
noncomputable def lD:RC:=(SR [BT 22 .lss 21 20] [0,4,19,20,21,22] (.seq (.cond (.t 22) .skip (.ext 0)) (.seq (.blk 1 (SR [OP 23 (.aT 1 (.t 19) (.t 21)),LD 24 23,MV 6 24] [0,4,6,19,20,21] (SR [MV 25 6] [0,4,19,20,21,25] (.blk 2 (SR [BI 27 .eql 25 7,MV 26 27] [0,4,19,20,21,25,26] (.cond (.t 26) (.reg [MV 28 0,MV 29 4,OP 30 (.aC (.t 28)),FA 31 0 30,FA 32 13 31,SA 1 32 29] 0 [0,4,19,20,21]) (SR [BI 34 .eql 25 25,MV 33 34] [0,4,19,20,21,25,33] (.cond (.t 33) (.reg [MV 35 0,MV 36 4,OP 37 (.aC (.t 35)),FA 38 0 37,FA 39 14 38,SA 1 39 36] 0 [0,4,19,20,21]) (SR [BI 41 .eql 25 1049,MV 40 41] [0,4,19,20,21,40] (.cond (.t 40) (.reg [MV 42 0,MV 43 4,OP 44 (.call 109 [.t 42,.t 43])] 0 [0,4,19,20,21]) .skip)))))))))) (.reg [BI 45 .add 21 1,MV 21 45] 0 [0,4,19,20,21]))))
noncomputable def jM:RFn:=⟨2,46,(SR [OP 3 (.box 6 (.t 1))] [0,3] (.seq (SR [FA 7 2 3,LD 8 7,OP 9 (.bin .neq (.t 8) (.c (.int .u8 104))),MV 10 9,FG 11 2 3 10 true,LG 12 11 10 true,OG 13 (.bin .neq (.t 12) (.c (.int .u8 108))) 10 true,OP 14 (.pick (.t 10) (.t 13) (.c (.bool false)))] [0,3,14] (.cond (.t 14) .ret .skip)) (SR [FA 15 2 3,LD 16 15,OP 17 (.bin .eql (.t 16) (.c (.int .u8 104))),MV 4 17] [0,3,4] (SR [FA 18 4 3,LD 19 18,OP 20 (.len (.t 19)),OP 21 (.mov (.c (.int .i64 0)))] [0,4,19,20,21] (.blk 0 (.loop lD)))))),[]⟩
theorem oo:aK PG.P [⟨0,0,[0,3],[]⟩,⟨1,0,[0,3,14],[]⟩,⟨2,0,[0,3,4],[]⟩,⟨3,0,[0,4,19,20,21],[]⟩,⟨4,0,[0,4,19,20,21,22],[]⟩,⟨5,0,[0,4,6,19,20,21],[]⟩,⟨6,0,[0,4,19,20,21,25],[]⟩,⟨7,0,[0,4,19,20,21,25,26],[]⟩,⟨8,0,[0,4,19,20,21],[]⟩,⟨9,0,[0,4,19,20,21,25,33],[]⟩,⟨10,0,[0,4,19,20,21],[]⟩,⟨11,0,[0,4,19,20,21,40],[]⟩,⟨12,0,[0,4,19,20,21],[]⟩,⟨13,0,[0,4,19,20,21],[]⟩] 66=some jM:=by kernel_rfl
noncomputable def uv:RFn:=⟨2,15,(SR [OP 2 (.box 6 (.t 0)),OP 4 (.mov (.c (.int .i64 0)))] [1,2] (.seq (SR [MV 5 1,FA 6 4 2,LD 7 6,OP 8 (.len (.t 7)),BT 9 .lss 5 8] [1,2,9] (.cond (.t 9) (SR [FA 10 4 2,LD 11 10,MV 12 1,OP 13 (.aT 1 (.t 11) (.t 12)),LD 14 13,MV 4 14] [4] .ret) .skip)) (SR [OP 4 (.mov (.c (.int .i64 0)))] [4] .ret))),[.t 4]⟩
theorem AP:aK PG.P [⟨0,0,[1,2],[]⟩,⟨1,0,[1,2,9],[]⟩,⟨2,0,[4],[]⟩,⟨3,0,[4],[]⟩] 99=some uv:=by kernel_rfl
theorem J0 (on:Bool)(s:Sc):dZ on s 1049=s7 on s:=by
 unfold dZ s7
 rw [if_neg (by decide),if_neg (by decide)]
 by_cases h1:on=true∧s.alt=false
 ·rw [if_pos ⟨rfl,h1.1,h1.2⟩,if_pos h1]
 ·rw [if_neg (fun h=>h1 h.2),if_neg h1]
  by_cases h2:on=false∧s.alt=true
  ·rw [if_pos ⟨rfl,h2.1,h2.2⟩,if_pos h2]
  ·rw [if_neg (fun h=>h2 h.2),if_neg h2]
theorem pS {on:Bool}:∀{ps:List Int} {s:Sc},aR s→aR (ps.foldl (dZ on) s)
 | [],s,h=>h
 | k::ps,s,h=>pS (ps:=ps) (J1 h k)
theorem td {on:Bool}{ps:List Int}{s:Sc}{i:Nat}(hi:i<ps.length):(ps.take (i+1)).foldl (dZ on) s=dZ on ((ps.take i).foldl (dZ on) s) (ps.getD i 0):=by
 rw [List.take_succ_eq_append_getElem hi,List.foldl_append]
 simp [List.getD_eq_getElem?_getD,hi]
theorem DT {T0 T:aj}{o:Nat}{s:Sc}{p:Pa}{sz:Nat}{sk:SK}{ps:List Int}{on:Bool}{K:aj→Prop}{Q:Exit→St→Prop}(hs:sz=1∨ps=[])(hl:ps.length≤1000000)(ok:aR s)(h:aB T0 T o s p)
  (hK:∀T',T.length≤T'.length→aB T0 T' o (ps.foldl (dZ on) s) p→K T') (hQ:∀env T',K T'→Q .normal ⟨env,T'⟩) :
  bp PG 46 lD (uT 0 Q) ⟨[(0,.ptr o 0 0),(4,.bool on),(19,.sl sz (af .i64 ps) sk),(20,.int .i64 ps.length),(21,.int .i64 0)],T⟩:=by
 refine bp.inv FOk.nil (S:=fun σ:Nat × aj=>⟨[(0,.ptr o 0 0),(4,.bool on),(19,.sl sz (af .i64 ps) sk),(20,.int .i64 ps.length),(21,.int .i64 σ.1)],σ.2⟩)
  (I:=fun σ=>σ.1≤ps.length∧T.length≤σ.2.length∧aB T0 σ.2 o ((ps.take σ.1).foldl (dZ on) s) p) (μ:=fun σ=>ps.length-σ.1) (0,T) ⟨by simp,Nat.le_refl _,h⟩ ?_ ?_
 ·simp -implicitDefEqProofs -dsimp only [ax,vcS,↓an,↓ak,simprocAttr]
 ·intro ⟨i,A⟩ ⟨h1,h2,h4⟩
  dsimp only at h1 h2 h4 ⊢
  have oki:=pS (on:=on) (ps:=ps.take i) ok
  have hst:=fun hi=>td (on:=on) (s:=s) (i:=i) (ps:=ps) hi
  have eL:ps.length≤i→(ps.take i).foldl (dZ on) s=ps.foldl (dZ on) s:=fun hh=>by rw [List.take_of_length_le hh]
  generalize (ps.take i).foldl (dZ on) s=a at *
  obtain ⟨k1,q1,tq1,od1,m1,pr1,f1,f2,f3,pa1,t1⟩:=id h4
  have hb1:=t1.box
  unfold aO at hb1
  have w1:IntKind.i64.wrap ((i:Int)+1)=((i+1:Nat):Int):=by rw [aP (by omega) (by omega)];omega
  rcases Nat.lt_or_ge i ps.length with hlt | hge
  ·have hii:(i:Int)<ps.length:=by omega
   have i0:(0:Int)≤i:=by omega
   have hsz:sz=1:=by rcases hs with h | h;exact h;subst h;simp at hlt
   subst hsz
   have hg:(af .i64 ps)[i]?=some [.int .i64 (ps.getD i 0)]:=by simp [af,hlt]
   have hlr:(af .i64 ps).length=ps.length:=by simp [af]
   have hst:=hst hlt
   generalize ps.getD i 0=k at *
   have done:∀{A':aj},A.length≤A'.length→aB T0 A' o (dZ on a k) p→
     ∃s':Nat × aj,(((i+1:Nat):Int)=(s'.1:Int)∧ff A' s'.2)∧(s'.1≤ps.length∧T.length≤s'.2.length∧aB T0 s'.2 o ((ps.take s'.1).foldl (dZ on) s) p)∧ps.length-s'.1<ps.length-i:=fun hl ht=>
    ⟨(i+1,_),⟨rfl,aJ _⟩,⟨hlt,Nat.le_trans h2 hl,by dsimp only;rw [hst];exact ht⟩,by dsimp only;omega⟩
   unfold lD
   rcases Decidable.em (k=7) with rfl | n7
   ·simp -implicitDefEqProofs -dsimp only [ah,ai hb1,hii,i0,hg,hlr,w1,ax,vcS,↓an,↓ak,simprocAttr]
    exact done (A':=A.set o (some (.box (aO { a with auto:=on} q1 tq1 od1 m1 pr1 f1 f2 f3)))) (by simp) (.mk (k1.put t1.no _) pa1 (t1.put rfl rfl rfl rfl rfl))
   ·rcases Decidable.em (k=25) with rfl | n25
    ·simp -implicitDefEqProofs -dsimp only [ah,ai hb1,hii,i0,hg,hlr,w1,ax,vcS,↓an,↓ak,simprocAttr]
     exact done (A':=A.set o (some (.box (aO { a with shown:=on} q1 tq1 od1 m1 pr1 f1 f2 f3)))) (by simp) (.mk (k1.put t1.no _) pa1 (t1.put rfl rfl rfl rfl rfl))
    ·rcases Decidable.em (k=1049) with rfl | n9
     ·simp -implicitDefEqProofs -dsimp only [ah,ai hb1,hii,i0,hg,hlr,w1,ax,vcS,↓an,↓ak,simprocAttr]
      refine TP oki h4 fun T' l t'=>?_
      simp -implicitDefEqProofs -dsimp only [ah,w1,ax,vcS,↓an,↓ak,simprocAttr]
      exact done l (by rw [J0];exact t')
     ·have e:dZ on a k=a:=by unfold dZ;rw [if_neg n7,if_neg n25,if_neg (fun h=>n9 h.1),if_neg (fun h=>n9 h.1)]
      simp -implicitDefEqProofs -dsimp only [ah,ai hb1,hii,i0,hg,hlr,w1,eq_false n7,eq_false n25,eq_false n9,ax,vcS,↓an,↓ak,simprocAttr]
      exact done (Nat.le_refl _) (by rw [e];exact h4)
  ·have hii:¬(i:Int)<ps.length:=by omega
   obtain rfl:i=ps.length:=by omega
   unfold lD
   simp -implicitDefEqProofs -dsimp only [ah,hii,ax,vcS,↓an,↓ak,simprocAttr]
   rw [eL (Nat.le_refl _)] at h4
   exact hQ _ _ (hK _ h2 h4)
def acD (k r b p:Int)(d1 d2:DV):DV:=.agg [.int .i64 k,.int .i32 r,.int .u8 b,.int .u8 p,d1,d2]
theorem TQ {T0 T:aj}{o:Nat}{s:Sc}{p:Pa}{sz:Nat}{sk:SK}{ps:List Int}{ka r b pv:Int}{d2:DV}{K:DV→aj→Prop}(hs:sz=1∨ps=[])(hl:ps.length≤1000000)(hd2:DV.one d2=true)(ok:aR s)(h:aB T0 T o s p)
  (hK:∀T',T.length≤T'.length→aB T0 T' o (if b=104∨b=108 then ps.foldl (dZ (decide (b=104))) s else s) p→K (.tup []) T'):aq PG 66 [.ptr o 0 0,acD ka r b pv (.sl sz (af .i64 ps) sk) d2] T K:=by
 unfold acD
 rcases Decidable.em (b=104) with rfl | b1
 ·refine aq.aE FOk.nil oo (by simp [jM]) ?_
  unfold jM
  dsimp only
  rw [if_pos (.inl rfl)] at hK
  simp -implicitDefEqProofs -dsimp only [ah,hd2,vcS,↓an,↓ak,simprocAttr]
  refine DT (T:=T++ [_]) (K:=fun T'=>T.length≤T'.length∧K (.tup []) T') hs hl ok (h.keep (aA.app _ _ _)) (fun T' l t'=>⟨by simp at l;omega,hK T' (by simp at l;omega) t'⟩) ?_
  exact fun _ _ h=>h
 ·rcases Decidable.em (b=108) with rfl | b2
  ·refine aq.aE FOk.nil oo (by simp [jM]) ?_
   unfold jM
   dsimp only
   rw [if_pos (.inr rfl)] at hK
   simp -implicitDefEqProofs -dsimp only [ah,hd2,vcS,↓an,↓ak,simprocAttr]
   refine DT (T:=T++ [_]) (K:=fun T'=>T.length≤T'.length∧K (.tup []) T') hs hl ok (h.keep (aA.app _ _ _)) (fun T' l t'=>⟨by simp at l;omega,hK T' (by simp at l;omega) t'⟩) ?_
   exact fun _ _ h=>h
  ·refine aq.aE FOk.nil oo (by simp [jM]) ?_
   unfold jM
   dsimp only
   rw [if_neg (by omega)] at hK
   simp -implicitDefEqProofs -dsimp only [ah,hd2,eq_false b1,eq_false b2,vcS,↓an,↓ak,simprocAttr]
   exact hK _ (by simp) (h.keep (aA.app _ _ _))
theorem ZO {ka r b pv i:Int}{d1 d2:DV}(h1:aD .i64 d1)(hl:(aF d1).length≤1000000)(hd2:DV.one d2=true)(hi:0≤i):az PG 99 [acD ka r b pv d1 d2,.int .i64 i] fun n rr os=>rr=.int .i64 (bE (aF d1) i.toNat)∧os=[]:=by
 obtain ⟨sz,sk,e1,h2,h3⟩:=aL h1
 rw [e1]
 simp only [aM]
 generalize aF d1=ps at *
 unfold acD
 have hlr:(af .i64 ps).length=ps.length:=by simp [af]
 rcases Nat.lt_or_ge i.toNat ps.length with hlt | hge
 ·have hii:i<ps.length:=by omega
  have hg:(af .i64 ps)[i.toNat]?=some [.int .i64 (bE ps i.toNat)]:=by simp [af,hlt,bE]
  have hsz:sz=1:=by rcases h2 with h | h;exact h;subst h;simp at hlt
  subst hsz
  refine az.cY (res:=fun n=>(.int .i64 (bE ps i.toNat),[])) FOk.nil AP (by simp [uv]) fun n=>?_
  unfold uv
  dsimp only
  simp -implicitDefEqProofs -dsimp only [ah,hd2,hii,hi,hg,hlr,vcS,↓an,↓ak,simprocAttr]
 ·have hii:¬i<ps.length:=by omega
  have e0:bE ps i.toNat=0:=by simp [bE,List.getD_eq_getElem?_getD,List.getElem?_eq_none hge]
  refine az.cY (res:=fun n=>(.int .i64 (bE ps i.toNat),[])) FOk.nil AP (by simp [uv]) fun n=>?_
  unfold uv
  dsimp only
  simp -implicitDefEqProofs -dsimp only [ah,hd2,hii,hi,hlr,e0,vcS,↓an,↓ak,simprocAttr]
def CU:List DV→Option aS
 | [.agg [.int .i64 ka,.int .i32 r,.int .u8 b,.int .u8 pv,d1,d2],.int .i64 i]=>some ⟨aD .i64 d1∧(aF d1).length≤1000000∧DV.one d2=true∧0≤i,fun n=>(.int .i64 (bE (aF d1) i.toNat),[])⟩
 | _=>none
theorem cN (ka r b pv i:Int)(d1 d2:DV):CU [.agg [.int .i64 ka,.int .i32 r,.int .u8 b,.int .u8 pv,d1,d2],.int .i64 i]=some ⟨aD .i64 d1∧(aF d1).length≤1000000∧DV.one d2=true∧0≤i,fun n=>(.int .i64 (bE (aF d1) i.toNat),[])⟩:=au _
theorem X7 (args:List DV)(s:aS)(hs:CU args=some s)(hp:s.pre):az PG 99 args fun n r os=>r=(s.res n).1∧os=(s.res n).2:=by
 unfold CU at hs
 split at hs
 ·obtain rfl:=sj hs
  obtain ⟨h1,h2,h3,h4⟩:=hp
  exact ZO h1 h2 h3 h4
 ·cases hs
def CI:FL:=[(99,.o CU)]
theorem dO:FOk PG (tab CI):=FOk.cons FOk.nil X7
theorem dP (args:List DV):tab CI 99 args=(CU args).map .o:=au _
theorem va {s:Sc}{b:Int}{ps:List Int}(hb:b=76∨b=77∨b=83∨b=84):eJ s b ps={ Je s b (max (bE ps 0) 1) with wrap:=false}:=by
 rcases hb with rfl | rfl | rfl | rfl
 ·have e1:eJ s 76 ps=if s.top≤s.y∧s.y≤s.bot then { s with wrap:=false,x:=0,cells:=dnF s.cells s.aa s.y s.bot (max (bE ps 0) 1)} else { s with wrap:=false}:=rfl
  have e2:Je s 76 (max (bE ps 0) 1)=if s.y<s.top∨s.bot<s.y then s else { s with cells:=dnF s.cells s.aa s.y s.bot (max (bE ps 0) 1),x:=0}:=rfl
  rw [e1,e2]
  by_cases h:s.y<s.top∨s.bot<s.y
  ·rw [if_pos h,if_neg (by omega)]
  ·rw [if_neg h,if_pos (by omega)]
 ·have e1:eJ s 77 ps=if s.top≤s.y∧s.y≤s.bot then { s with wrap:=false,x:=0,cells:=upF s.cells s.aa s.y s.bot (max (bE ps 0) 1)} else { s with wrap:=false}:=rfl
  have e2:Je s 77 (max (bE ps 0) 1)=if s.y<s.top∨s.bot<s.y then s else { s with cells:=upF s.cells s.aa s.y s.bot (max (bE ps 0) 1),x:=0}:=rfl
  rw [e1,e2]
  by_cases h:s.y<s.top∨s.bot<s.y
  ·rw [if_pos h,if_neg (by omega)]
  ·rw [if_neg h,if_pos (by omega)]
 ·rfl
 ·rfl
theorem Fv {s:Sc}{ps:List Int}:eJ s 74 ps={ SL s false (bE ps 0) with wrap:=false}∧eJ s 75 ps={ SL s true (bE ps 0) with wrap:=false}:=by
 refine ⟨?_, ?_⟩
 ·show fL s false (bE ps 0)=_
  unfold fL SL
  split <;> rfl
 ·show fL s true (bE ps 0)=_
  unfold fL SL
  split <;> rfl
theorem SQ {s:Sc}{ps:List Int}(ht:s.aU.length=s.aa):eJ s 103 ps=NM s (bE ps 0):=by
 show (if bE ps 0=3 then { s with aU:=List.replicate s.aa false} else if bE ps 0=0 then { s with aU:=s.aU.set s.x false} else s)=_
 unfold NM
 by_cases h3:bE ps 0=3
 ·rw [if_pos h3]
  congr 1
  refine List.ext_getElem (by simp [kK,ht]) fun i h1 h2=>?_
  simp [kK,h3] at h1 h2 ⊢
  intro h
  exact absurd h (by omega)
 ·rw [if_neg h3]
  by_cases h0:bE ps 0=0
  ·rw [if_pos h0]
   congr 1
   refine List.ext_getElem (by simp [kK]) fun i h1 h2=>?_
   simp [kK] at h1 h2
   rw [List.getElem_set]
   simp only [kK,List.getElem_map,List.getElem_range]
   by_cases e:s.x=i
   ·rw [if_pos e,if_pos ⟨by omega,.inr ⟨h0,e.symm⟩⟩]
   ·rw [if_neg e,if_neg (by omega)]
    simp [List.getD_eq_getElem?_getD,h2]
  ·rw [if_neg h0]
   have:kK s (bE ps 0) s.aU.length=s.aU:=by
    refine List.ext_getElem (by simp [kK]) fun i h1 h2=>?_
    simp only [kK,List.getElem_map,List.getElem_range]
    rw [if_neg (by omega)]
    simp [List.getD_eq_getElem?_getD,h2]
   rw [this]
theorem YN {s:Sc}{ps:List Int}:eJ s 114 ps=ZQ s (max (bE ps 0) 1-1) (bE ps 1):=rfl
end Go.Proofs.YtjmnbpilnneonaaGreatDoor
