/- Texts H9, H10, H11 in one. -/
import Derived.Test.YtjmnbpilnneonaaGreatDoorN3
import Derived.Test.YtjmnbpilnneonaaGreatDoorM3
import Derived.Test.YtjmnbpilnneonaaGreatDoorN5
import Derived.Test.YtjmnbpilnneonaaGreatDoorN6
set_option linter.unusedVariables false
set_option linter.unusedSimpArgs false
set_option maxRecDepth 10000
namespace Go.Proofs.YtjmnbpilnneonaaGreatDoor
open Go.RowKit
noncomputable section
variable {s:Sc}{T T0:ay}{K:DV->ay->Prop}{ps:List Int}{o:Nat}{p:Pa}{on:Bool}
def xZ:RC:=(SR [BT 12 .lss 11 10] [0,5,10,11,12] (.seq (.cond (.t 12) .skip (.ext 0)) (.seq (.blk 1 (SR [MV 13 11,MV 6 13] [0,5,6,10,11] (SR [MV 14 5,MV 15 6,MV 16 6,BI 17 .rem 16 8,BI 18 .eql 17 0,OP 19 (.aT 1 (.t 14) (.t 15)),SA 1 19 18] [0,5,6,10,11] (SR [MV 20 6,MV 21 0,OP 22 (.len (.t 21)),BT 23 .lss 20 22] [0,5,6,10,11,23] (.cond (.t 23) (.reg [MV 24 5,MV 25 6,MV 26 0,MV 27 6,OP 28 (.aT 1 (.t 26) (.t 27)),LD 29 28,OP 30 (.aT 1 (.t 24) (.t 25)),SA 1 30 29] 0 [0,5,10,11]) .skip))))) (.reg [BI 31 .add 11 1,MV 11 31] 0 [0,5,10,11]))))
def vb:RFn:=⟨2,33,(SR [OP 4 (.mov (.c (.sl 0 [] .nil)))] [0,1] (SR [MV 7 1,OP 8 (.fY 1 1 [.bool false] (.t 7) (.t 7)),MV 5 8] [0,5] (.seq (SR [MV 9 5,OP 10 (.len (.t 9)),OP 11 (.mov (.c (.int .i64 0)))] [0,5,10,11] (.blk 0 (.loop xZ))) (SR [MV 32 5,MV 4 32] [4] .ret)))),[.t 4]⟩
theorem GI:aK PG.P (aA PG.P 39 vb) 39=some vb:=by kernel_rfl
def kO:RFn:=⟨2,31,(SR [OP 4 (.alloc ZS),OP 5 (.mov (.c (.int .i64 0)))] [0,1,4] (.seq (SR [MV 6 0,BI 7 .lss 6 1,MV 8 7,MG 9 0 8 false,OG 10 (.bin .gtr (.t 9) (.c (.int .i64 1000))) 8 false,OP 11 (.pick (.t 8) (.c (.bool true)) (.t 10)),MV 12 11,MG 13 1 12 false,OG 14 (.bin .lss (.t 13) (.c (.int .i64 1))) 12 false,OP 15 (.pick (.t 12) (.c (.bool true)) (.t 14)),MV 16 15,MG 17 1 16 false,OG 18 (.bin .gtr (.t 17) (.c (.int .i64 1000))) 16 false,OP 19 (.pick (.t 16) (.c (.bool true)) (.t 18))] [0,1,4,19] (.cond (.t 19) (SR [OP 20 (.build [.int .i64 0,.int .i64 0,.sl 0 [] .nil,.int .i64 0,.int .i64 0,.bool false,.int .u16 0,.int .i64 0,.int .i64 0,.sl 0 [] .nil,.int .i64 0,.int .i64 0,.int .u16 0,.bool false,.bool false,.bool false,.sl 0 [] .nil,.int .i64 0,.int .i64 0,.int .i64 0,.int .u8 0,.sl 0 [] .nil,.sl 0 [] .nil,.sl 0 [] .nil] []),SA 24 4 20,OP 5 (.mov (.c (.int .i64 26)))] [4,5] .ret) .skip)) (SR [MV 21 0,MV 22 1,MV 23 0,MV 24 1,OP 25 (.call 38 [.t 23,.t 24]),MV 26 0,BI 27 .sub 26 1,MV 28 1,OP 29 (.call 39 [.c (.sl 0 [] .nil),.t 28]),OP 30 (.build [.int .i64 0,.int .i64 0,.sl 0 [] .nil,.int .i64 0,.int .i64 0,.bool false,.int .u16 0,.int .i64 0,.int .i64 0,.sl 0 [] .nil,.int .i64 0,.int .i64 0,.int .u16 0,.bool false,.bool false,.bool false,.sl 0 [] .nil,.int .i64 0,.int .i64 0,.int .i64 0,.int .u8 0,.sl 0 [] .nil,.sl 0 [] .nil,.sl 0 [] .nil] [(0,(1,(.t 21))),(1,(1,(.t 22))),(2,(1,(.t 25))),(8,(1,(.t 27))),(9,(1,(.t 29))),(13,(1,(.c (.bool true)))),(14,(1,(.c (.bool true))))]),SA 24 4 30,OP 5 (.mov (.c (.int .i64 0)))] [4,5] .ret))),[.c 4 true 24,.t 5]⟩
theorem qz:aK PG.P (aA PG.P 16 kO) 16=some kO:=by kernel_rfl
def fj (was:List Bool)(n i:Nat):List Bool:=(List.range n).map fun x=>if x<i then (if x<was.length then was.getD x false else decide (x % 8=0)) else false
theorem Ju (was:List Bool)(n i:Nat):(fj was n i).length=n:=by simp[fj]
theorem Q5 (was:List Bool)(n:Nat):fj was n 0=List.replicate n false:=by
 refine List.ext_getElem (by simp[fj]) fun i h1 h2=>?_
 simp[fj]
theorem zF (n:Nat):fj [] n n=mC n:=by
 refine List.ext_getElem (by simp[fj,mC]) fun i h1 h2=>?_
 simp[fj] at h1
 simp[fj,mC,h1]
theorem xN {was:List Bool}{n i:Nat}(hi:i<n)(b:Bool)(hb:b=if i<was.length then was.getD i false else decide (i % 8=0)):(fj was n i).set i b=fj was n (i+1):=by
 refine List.ext_getElem (by simp[fj]) fun j h1 h2=>?_
 rw[List.getElem_set]
 simp only[fj,List.getElem_map,List.getElem_range]
 by_cases e:i=j
 ·subst e;rw[if_pos rfl,if_pos (by omega),hb]
 ·rw[if_neg e]
  by_cases h:j<i
  ·simp[h,show j<i+1 by omega]
  ·simp[h,show ¬j<i+1 by omega]
theorem L0 {sz:Nat}{sk:SK}{was:List Bool}{n:Nat}(hs:sz=1\/was=[])(hn:1<=n/\n<=1000)(h:∀T' p,T.length<=p->T'[p]?=some (some (.arr 1 (bg (fj was n n))))->ax T T' []->K (.own p 0 n) T') :
  aj PG 39 [.sl sz (bg was) sk,.int .i64 n] T K:=by
 refine aj.aE FOk.nil GI (by simp[vb]) ?_
 unfold vb
 dsimp only
 have n0:(0:Int)<=n:=by omega
 simp -implicitDefEqProofs -dsimp only[ah,pR,aY,vcS,↓vcQ,simprocAttr]
 have hb1:(n:Int)*1<=140737488355328/\(n:Int)<=4611686018427387904:=by omega
 refine ⟨⟨n0,Int.le_refl _,hb1.1,hb1.2⟩, ?_⟩
 refine bk.inv FOk.nil (S:=fun i:Nat=>⟨[(0,.sl sz (bg was) sk),(5,.own T.length 0 n),(10,.int .i64 n),(11,.int .i64 i)],T++ [some (.arr 1 (bg (fj was n i)))]⟩)
  (I:=fun i=>i<=n) (μ:=fun i=>n-i) 0 (by omega) ?_ ?_
 ·simp -implicitDefEqProofs -dsimp only[an,Q5,vcS,↓vcQ,simprocAttr]
 ·intro i hi
  unfold xZ
  have hlen:=Ju was n i
  by_cases hlt:i<n
  ·have hii:(i:Int)<n:=by omega
   have hi0:(0:Int)<=i:=by omega
   have hw1:IntKind.i64.wrap ((i:Int)+1)=((i+1:Nat):Int):=by rw[aO (by omega) (by omega)];omega
   have hm:decide ((i:Int).tmod 8=0)=decide (i % 8=0):=by
    rw[decide_eq_decide,Int.tmod_eq_emod_of_nonneg hi0];omega
   have hg:=fl (L:=fj was n i) (i:=i) (by omega)
   have hs0:=jg (fj was n i) i (decide (i % 8=0))
   have hg2:=fl (L:=(fj was n i).set i (decide (i % 8=0))) (i:=i) (by simp;omega)
   by_cases YP:i<was.length
   ·have Tp:(i:Int)<was.length:=by omega
    have hsz:sz=1:=by rcases hs with h | h;exact h;subst h;simp at YP
    have hgw:=fl YP
    have hs1:=jg ((fj was n i).set i (decide (i % 8=0))) i (was.getD i false)
    have bY:((fj was n i).set i (decide (i % 8=0))).set i (was.getD i false)=fj was n (i+1):=by
     rw[List.set_set]
     exact xN hlt _ (by rw[if_pos YP])
    rw[bY] at hs1
    subst hsz
    simp -implicitDefEqProofs -dsimp only[ah,aY,hlen,hii,hi0,hw1,hm,hg,hg2,hs0,hs1,hgw,Tp,an,Nat.zero_add,List.length_set,vcS,↓vcQ,simprocAttr]
    exact ⟨i+1,⟨rfl,aH _⟩,hlt,by omega⟩
   ·have Tp:¬(i:Int)<was.length:=by omega
    have bY:(fj was n i).set i (decide (i % 8=0))=fj was n (i+1):=xN hlt _ (by rw[if_neg YP])
    rw[bY] at hs0
    simp -implicitDefEqProofs -dsimp only[ah,aY,hlen,hii,hi0,hw1,hm,hg,hs0,Tp,an,Nat.zero_add,vcS,↓vcQ,simprocAttr]
    exact ⟨i+1,⟨rfl,aH _⟩,hlt,by omega⟩
  ·have hii:¬(i:Int)<n:=by omega
   obtain rfl:i=n:=by omega
   simp -implicitDefEqProofs -dsimp only[ah,hii,an,vcS,↓vcQ,simprocAttr]
   exact h _ _ (Nat.le_refl _) (aZ _ _ _) (ax.app _ _ _)
def BU (rows aa q tq:Nat):DV:=.agg (aN (newF rows aa) q tq (.sl 0 [] .nil) 0 0 (.sl 0 [] .nil) (.sl 0 [] .nil) (.sl 0 [] .nil))
theorem ae6 (args:List DV):tab TG3 38 args=none:=ak _
theorem Xs {r c:Nat}(hr:1<=r/\r<=1000)(hc:1<=c/\c<=1000)
  (h:∀T' q tq,T.length<=q->T.length<=tq->q≠tq->T'[q]?=some (some (.arr 3 (aq (dV r c))))->T'[tq]?=some (some (.arr 1 (bg (mC c))))->ax T T' []->K (.tup [BU r c q tq,.int .i64 0]) T') :
  aj PG 16 [.int .i64 r,.int .i64 c] T K:=by
 refine aj.aE FOk.nil qz (by simp[kO]) ?_
 unfold kO
 dsimp only
 have r1:¬(r:Int)<1:=by omega
 have r2:¬(1000:Int)<r:=by omega
 have c1:¬(c:Int)<1:=by omega
 have c2:¬(1000:Int)<c:=by omega
 simp -implicitDefEqProofs -dsimp only[ah,r1,r2,c1,c2,vcS,↓vcQ,simprocAttr]
 refine AE hr hc fun T1 q hq hA k1=>?_
 have w1:IntKind.i64.wrap ((r:Int)-1)=((r-1:Nat):Int):=by rw[aO (by omega) (by omega)];omega
 have hb:=k1.at (aZ T [] (some (Ob.box _))) (by simp)
 simp -implicitDefEqProofs -dsimp only[ah,r1,r2,c1,c2,w1,vcS,↓vcQ,simprocAttr]
 refine L0 (was:=[]) (.inr rfl) hc fun T2 tq htq hB k2=>?_
 simp -implicitDefEqProofs -dsimp only[ah,r1,r2,c1,c2,w1,ai (k2.at hb (by simp)),vcS,↓vcQ,simprocAttr]
 have l1:=k1.1
 have l2:=k2.1
 simp only[List.length_append,List.length_cons,List.length_nil] at l1 hq
 have kk:ax T T2 []:=((ax.app T _ []).new k1 (by simp)).new k2 (by simp)
 have e:BU r c q tq=.agg [.int .i64 r,.int .i64 c,.own q 0 (r*c),.int .i64 0,.int .i64 0,.bool false,.int .u16 0,.int .i64 0,.int .i64 ((r-1:Nat):Int),.own tq 0 c,.int .i64 0,.int .i64 0,.int .u16 0,.bool true,.bool true,.bool false,.sl 0 [] .nil,.int .i64 0,.int .i64 0,.int .i64 0,.int .u8 0,.sl 0 [] .nil,.sl 0 [] .nil,.sl 0 [] .nil]:=by
  simp[BU,aN,newF,dV,rE]
 have lq:=eI hA
 refine ⟨by simp;omega, ?_⟩
 have:=h (T2.set T.length (some (.box (aN (newF r c) q tq (.sl 0 [] .nil) 0 0 (.sl 0 [] .nil) (.sl 0 [] .nil) (.sl 0 [] .nil))))) q tq (by omega) (by omega) (by omega) (bn (k2.at hA (by simp)) _ (by omega)) (by rw[zF] at hB;exact bn hB _ (by omega)) (kk.new (ax.set T2 T.length _) (by simp))
 have e2:aN (newF r c) q tq (.sl 0 [] .nil) 0 0 (.sl 0 [] .nil) (.sl 0 [] .nil) (.sl 0 [] .nil)=_:=DV.agg.inj e
 rw[e,e2] at this
 exact this
theorem Rh {r c:Int}(hn:¬(1<=r/\r<=1000/\1<=c/\c<=1000))
  (h:∀T',ax T T' []->K (.tup [.agg [.int .i64 0,.int .i64 0,.sl 0 [] .nil,.int .i64 0,.int .i64 0,.bool false,.int .u16 0,.int .i64 0,.int .i64 0,.sl 0 [] .nil,.int .i64 0,.int .i64 0,.int .u16 0,.bool false,.bool false,.bool false,.sl 0 [] .nil,.int .i64 0,.int .i64 0,.int .i64 0,.int .u8 0,.sl 0 [] .nil,.sl 0 [] .nil,.sl 0 [] .nil],.int .i64 26]) T') :
  aj PG 16 [.int .i64 r,.int .i64 c] T K:=by
 refine aj.aE FOk.nil qz (by simp[kO]) ?_
 unfold kO
 dsimp only
 simp -implicitDefEqProofs -dsimp only[ah,vcS,↓vcQ,simprocAttr]
 refine ⟨fun _=>h _ (ax.app _ _ _),fun _=>⟨fun _=>h _ (ax.app _ _ _),fun _=>⟨fun _=>h _ (ax.app _ _ _),fun _=>⟨fun _=>h _ (ax.app _ _ _),fun _=>by omega⟩⟩⟩⟩
def jn:RFn:=⟨2,96,.seq (SR [MV 4 1,MV 5 0,OP 6 (.aF (.t 5)),FA 7 0 6,FA 8 15 7,LD 9 8,OP 10 (.eqB false (.t 4) (.t 9))] [0,1,10] (.cond (.t 10) .ret .skip)) (.seq (SR [MV 11 1] [0,1,11] (.cond (.t 11) (.cJ (.take (MV 12 0) [] (.take (MV 13 0) [] (.take (MV 14 0) [] (.take (MV 15 0) [] (.take (MV 16 0) [] (.take (OP 17 (.aF (.t 16))) [] (.take (FA 18 0 17) [] (.take (FA 19 2 18) [] (.take (LD 20 19) [] (.take (MV 21 0) [] (.take (OP 22 (.aF (.t 21))) [] (.take (FA 23 0 22) [] (.take (FA 24 3 23) [] (.take (LD 25 24) [] (.take (MV 26 0) [] (.take (OP 27 (.aF (.t 26))) [] (.take (FA 28 0 27) [] (.take (FA 29 4 28) [] (.take (LD 30 29) [] (.take (MV 31 0) [] (.take (OP 32 (.aF (.t 31))) [] (.take (FA 33 0 32) [] (.take (FA 34 0 33) [] (.take (LD 35 34) [] (.take (MV 36 0) [] (.take (OP 37 (.aF (.t 36))) [] (.take (FA 38 0 37) [] (.take (FA 39 1 38) [] (.take (LD 40 39) [] (.op (OP 41 (.call 38 [.t 35,.t 40])) (.take (OP 42 (.aF (.t 12))) [] (.take (FA 43 0 42) [] (.take (FA 44 16 43) [] (.op (SA 1 44 20) (.take (OP 45 (.aF (.t 13))) [] (.take (FA 46 0 45) [] (.take (FA 47 17 46) [] (.op (SA 1 47 25) (.take (OP 48 (.aF (.t 14))) [] (.take (FA 49 0 48) [] (.take (FA 50 18 49) [] (.op (SA 1 50 30) (.take (OP 51 (.aF (.t 15))) [] (.take (FA 52 0 51) [] (.take (FA 53 2 52) [] (.op (SA 1 53 41) .done)))))))))))))))))))))))))))))))))))))))))))))) 0 [0,1]) (SR [MV 54 0,MV 55 0,MV 56 0,OP 57 (.aF (.t 56)),FA 58 0 57,FA 59 16 58,LD 60 59,OP 61 (.aF (.t 54)),FA 62 0 61,FA 63 2 62,SA 1 63 60,OP 64 (.aF (.t 55)),FA 65 0 64,FA 66 16 65,NP (.store 1 (.t 66) (.c (.sl 0 [] .nil)))] [0,1] (.seq (.cJ (.take (MV 67 0) [] (.take (MV 68 0) [] (.take (OP 69 (.aF (.t 68))) [] (.take (FA 70 0 69) [] (.take (FA 71 17 70) [] (.take (LD 72 71) [] (.take (MV 73 0) [] (.take (OP 74 (.aF (.t 73))) [] (.take (FA 75 0 74) [] (.take (FA 76 18 75) [] (.take (LD 77 76) [] (.mid (OP 78 (.call 100 [.t 67,.t 72,.t 77])) .done)))))))))))) 0 [0,1]) (.reg [MV 79 0,MV 80 0,OP 81 (.aF (.t 79)),FA 82 0 81,FA 83 17 82,NP (.store 1 (.t 83) (.c (.int .i64 0))),OP 84 (.aF (.t 80)),FA 85 0 84,FA 86 18 85,NP (.store 1 (.t 86) (.c (.int .i64 0)))] 0 [0,1]))))) (.reg [MV 87 0,MV 88 0,MV 89 1,OP 90 (.aF (.t 87)),FA 91 0 90,FA 92 15 91,SA 1 92 89,OP 93 (.aF (.t 88)),FA 94 0 93,FA 95 5 94,NP (.store 1 (.t 95) (.c (.bool false)))] 0 [])),[]⟩
theorem oZ:aK PG.P (aA PG.P 109 jn) 109=some jn:=by kernel_rfl
theorem TI {rows aa:Nat}(h1:1<=rows/\rows<=1000)(h2:1<=aa/\aa<=1000):av PG 38 [.int .i64 rows,.int .i64 aa] fun n r os=>r=.own n 0 (rows*aa)/\os=[some (.arr 3 (aq (dV rows aa)))]:=
 av.acZ (res:=fun n=>(.own n 0 (rows*aa),[some (.arr 3 (aq (dV rows aa)))])) fun n T _=>AE h1 h2 fun T' p hp hc k=>RN hc (mu _)
def ri:List DV->Option aS
 | [.int .i64 r,.int .i64 c]=>some ⟨1<=r/\r<=1000/\1<=c/\c<=1000,fun n=>(.own n 0 (r.toNat*c.toNat),[some (.arr 3 (aq (dV r.toNat c.toNat)))])⟩
 | _=>none
theorem Bx (r c:Int):ri [.int .i64 r,.int .i64 c]=some ⟨1<=r/\r<=1000/\1<=c/\c<=1000,fun n=>(.own n 0 (r.toNat*c.toNat),[some (.arr 3 (aq (dV r.toNat c.toNat)))])⟩:=ak _
theorem OM (args:List DV)(s:aS)(hs:ri args=some s)(hp:s.pre):av PG 38 args fun n r os=>r=(s.res n).1/\os=(s.res n).2:=by
 unfold ri at hs
 split at hs
 ·rename_i r c
  obtain rfl:=sj hs
  obtain ⟨h1,h2,h3,h4⟩:=hp
  have:=TI (rows:=r.toNat) (aa:=c.toNat) (by omega) (by omega)
  rwa [Int.toNat_of_nonneg (by omega),Int.toNat_of_nonneg (by omega)] at this
 ·cases hs
def ack:FL:=[(38,.o ri)]
theorem Fi:FOk PG (tab ack):=FOk.cons FOk.nil OM
theorem MA (args:List DV):tab ack 38 args=(ri args).map .o:=ak _
theorem VA (args:List DV):tab ack 100 args=none:=ak _
def tK (on:Bool)(s:Sc):Sc:=
 if on=true/\s.alt=false then { s with other:=s.cells,oy:=s.y,ox:=s.x,alt:=true,wrap:=false,cells:=dV s.rows s.aa}
 else if on=false/\s.alt=true then { s with cells:=s.other,y:=s.oy,x:=s.ox,alt:=false,wrap:=false,other:=[],oy:=0,ox:=0}
 else s
theorem M8 {K:DV->ay->Prop}(ha:s.alt=false)(ok:aR s)(h:aB T0 T o s p)(hK:∀T',T.length<=T'.length->aB T0 T' o { s with other:=s.cells,oy:=s.y,ox:=s.x,alt:=true,wrap:=false,cells:=dV s.rows s.aa} p->K (.tup []) T') :
  aj PG 109 [.ptr o 0 0,.bool true] T K:=by
 obtain ⟨k0,q,tq,od,m,pr,d1,d2,d3,pa,t⟩:=id h
 have hb:=t.box
 unfold aN at hb
 rw[ha] at hb
 have hr:=ok.g.r
 have hc:=ok.g.c
 refine aj.aE Fi oZ (by simp[jn]) ?_
 unfold jn
 dsimp only
 have r1:1<=(s.rows:Int)/\(s.rows:Int)<=1000/\1<=(s.aa:Int)/\(s.aa:Int)<=1000:=by omega
 simp -implicitDefEqProofs -dsimp only[ah,ai hb,MA,Bx,r1,Int.toNat_natCast,List.set_set,vcS,↓vcQ,simprocAttr]
 have lo:=eI t.box
 have lc:=eI t.cells
 have lt:=eI t.aP
 have l0:=k0.1
 have tt:jT T0 (T.set o (some (.box (aN { s with other:=s.cells,oy:=s.y,ox:=s.x,alt:=true,wrap:=false,cells:=dV s.rows s.aa} T.length tq (.own q 0 s.cells.length) m pr d1 d2 d3)))++ [some (.arr 3 (aq (dV s.rows s.aa)))]) o T.length tq { s with other:=s.cells,oy:=s.y,ox:=s.x,alt:=true,wrap:=false,cells:=dV s.rows s.aa} (.own q 0 s.cells.length) m pr d1 d2 d3:=
  ⟨Jt t.box _ _,Gd _ _ _ _ _,hO (bn t.aP _ t.ot.symm) _,.inl ⟨q,rfl,hO (bn t.cells _ t.oq.symm) _,t.oq.symm,by omega,t.qt,t.nq⟩,by omega,t.ot,by omega,t.no,Dd.ge (by omega),t.nt⟩
 have e:(dV s.rows s.aa).length=s.rows*s.aa:=by simp[dV]
 have fin:=hK _ (by simp) (.mk ((k0.put t.no _).dU _) pa tt)
 unfold aN at fin
 dsimp only at fin
 rw[e] at fin
 exact ⟨by simp,fin⟩
theorem Jp {K:DV->ay->Prop}(ha:s.alt=true)(ok:aR s)(h:aB T0 T o s p)(hK:∀T',T.length<=T'.length->aB T0 T' o { s with cells:=s.other,y:=s.oy,x:=s.ox,alt:=false,wrap:=false,other:=[],oy:=0,ox:=0} p->K (.tup []) T') :
  aj PG 109 [.ptr o 0 0,.bool false] T K:=by
 obtain ⟨k0,q,tq,od,m,pr,d1,d2,d3,pa,t⟩:=id h
 rcases t.oth with ⟨oq,rfl,hoq,n1,n2,n3,n4⟩ | ⟨h0,_⟩
 rotate_left
 ·rw[ha] at h0;cases h0
 have hb:=t.box
 unfold aN at hb
 rw[ha] at hb
 have hr:=ok.g.r
 have hc:=ok.g.c
 refine aj.aE Fi oZ (by simp[jn]) ?_
 unfold jn
 dsimp only
 simp -implicitDefEqProofs -dsimp only[ah,ai hb,MA,VA,Bx,List.set_set,vcS,↓vcQ,simprocAttr]
 have hb1:(T.set o (some (.box (aN { s with cells:=s.other} oq tq (.sl 0 [] .nil) m pr d1 d2 d3))))[o]?=some (some (.box (aN { s with cells:=s.other} oq tq (.sl 0 [] .nil) m pr d1 d2 d3))):=bZ t.box _
 have hb0:=hb1
 unfold aN at hb0
 simp only[ha] at hb0
 have hoy:=ok.oy
 have hox:=ok.ox
 have ey:min (s.oy:Int).toNat (s.rows-1)=s.oy:=by omega
 have ex:min (s.ox:Int).toNat (s.aa-1)=s.ox:=by omega
 refine Z9 (s:={ s with cells:=s.other,alt:=true}) (q:=oq) (tq:=tq) (od:=.sl 0 [] .nil) (m:=m) (pr:=pr) (d1:=d1) (d2:=d2) (d3:=d3) hr hc (bZ t.box _) ?_
 rw[List.set_set]
 have hb2:(T.set o (some (.box (aN (toP { s with cells:=s.other,alt:=true} s.oy s.ox) oq tq (.sl 0 [] .nil) m pr d1 d2 d3))))[o]?=some (some (.box (aN (toP { s with cells:=s.other,alt:=true} s.oy s.ox) oq tq (.sl 0 [] .nil) m pr d1 d2 d3))):=bZ t.box _
 unfold aN toP at hb2 ⊢
 simp only[ey,ex] at hb2 ⊢
 simp -implicitDefEqProofs -dsimp only[ah,ai hb2,bZ t.box,List.set_set,vcS,↓vcQ,simprocAttr]
 have lo:=eI t.box
 have l0:=k0.1
 have tt:jT T0 (T.set o (some (.box (aN { s with cells:=s.other,y:=s.oy,x:=s.ox,alt:=false,wrap:=false,other:=[],oy:=0,ox:=0} oq tq (.sl 0 [] .nil) m pr d1 d2 d3)))) o oq tq { s with cells:=s.other,y:=s.oy,x:=s.ox,alt:=false,wrap:=false,other:=[],oy:=0,ox:=0} (.sl 0 [] .nil) m pr d1 d2 d3:=
  ⟨bZ t.box _,bn hoq _ n1,bn t.aP _ t.ot.symm,.inr ⟨rfl,0,.nil,rfl⟩,n1.symm,t.ot,n3,t.no,n4,t.nt⟩
 exact ⟨by simp,hK _ (by simp) (.mk (k0.put t.no _) pa tt)⟩
theorem QM (ok:aR s)(h:aB T0 T o s p)(hK:∀T',T.length<=T'.length->aB T0 T' o (tK on s) p->K (.tup []) T'):aj PG 109 [.ptr o 0 0,.bool on] T K:=by
 have same:∀b:Bool,s.alt=b->K (.tup []) T->aj PG 109 [.ptr o 0 0,.bool b] T K:=fun b hab hk=>by
  obtain ⟨k0,q,tq,od,m,pr,d1,d2,d3,pa,t⟩:=id h
  have hb:=t.box
  unfold aN at hb
  rw[hab] at hb
  cases b
  all_goals
   refine aj.aE Fi oZ (by simp[jn]) ?_
   unfold jn
   dsimp only
   simp -implicitDefEqProofs -dsimp only[ah,ai hb,vcS,↓vcQ,simprocAttr]
   exact hk
 cases ha:s.alt with
 | false=>cases on with
  | true=>exact M8 ha ok h (by unfold tK at hK;rw[if_pos ⟨rfl,ha⟩] at hK;exact hK)
  | false=>exact same false ha (hK _ (Nat.le_refl _) (by unfold tK;rw[if_neg (by simp),if_neg (by simp[ha])];exact h))
 | true=>cases on with
  | true=>exact same true ha (hK _ (Nat.le_refl _) (by unfold tK;rw[if_neg (by simp[ha]),if_neg (by simp)];exact h))
  | false=>exact Jp ha ok h (by unfold tK at hK;rw[if_neg (by simp),if_pos ⟨rfl,ha⟩] at hK;exact hK)
def lR:RC:=(SR [BT 22 .lss 21 20] [0,4,19,20,21,22] (.seq (.cond (.t 22) .skip (.ext 0)) (.seq (.blk 1 (SR [OP 23 (.aT 1 (.t 19) (.t 21)),LD 24 23,MV 6 24] [0,4,6,19,20,21] (SR [MV 25 6] [0,4,19,20,21,25] (.blk 2 (SR [BI 27 .eql 25 7,MV 26 27] [0,4,19,20,21,25,26] (.cond (.t 26) (.reg [MV 28 0,MV 29 4,OP 30 (.aF (.t 28)),FA 31 0 30,FA 32 13 31,SA 1 32 29] 0 [0,4,19,20,21]) (SR [BI 34 .eql 25 25,MV 33 34] [0,4,19,20,21,25,33] (.cond (.t 33) (.reg [MV 35 0,MV 36 4,OP 37 (.aF (.t 35)),FA 38 0 37,FA 39 14 38,SA 1 39 36] 0 [0,4,19,20,21]) (SR [BI 41 .eql 25 1049,MV 40 41] [0,4,19,20,21,40] (.cond (.t 40) (.reg [MV 42 0,MV 43 4,OP 44 (.call 109 [.t 42,.t 43])] 0 [0,4,19,20,21]) .skip)))))))))) (.reg [BI 45 .add 21 1,MV 21 45] 0 [0,4,19,20,21]))))
def jo:RFn:=⟨2,46,(SR [OP 3 (.box 6 (.t 1))] [0,3] (.seq (SR [FA 7 2 3,LD 8 7,OP 9 (.bin .neq (.t 8) (.c (.int .u8 104))),MV 10 9,FG 11 2 3 10 true,LG 12 11 10 true,OG 13 (.bin .neq (.t 12) (.c (.int .u8 108))) 10 true,OP 14 (.pick (.t 10) (.t 13) (.c (.bool false)))] [0,3,14] (.cond (.t 14) .ret .skip)) (SR [FA 15 2 3,LD 16 15,OP 17 (.bin .eql (.t 16) (.c (.int .u8 104))),MV 4 17] [0,3,4] (SR [FA 18 4 3,LD 19 18,OP 20 (.len (.t 19)),OP 21 (.mov (.c (.int .i64 0)))] [0,4,19,20,21] (.blk 0 (.loop lR)))))),[]⟩
theorem o5:aK PG.P (aA PG.P 66 jo) 66=some jo:=by kernel_rfl
def r9:RFn:=⟨2,15,(SR [OP 2 (.box 6 (.t 0)),OP 4 (.mov (.c (.int .i64 0)))] [1,2] (.seq (SR [MV 5 1,FA 6 4 2,LD 7 6,OP 8 (.len (.t 7)),BT 9 .lss 5 8] [1,2,9] (.cond (.t 9) (SR [FA 10 4 2,LD 11 10,MV 12 1,OP 13 (.aT 1 (.t 11) (.t 12)),LD 14 13,MV 4 14] [4] .ret) .skip)) (SR [OP 4 (.mov (.c (.int .i64 0)))] [4] .ret))),[.t 4]⟩
theorem zZ:aK PG.P (aA PG.P 99 r9) 99=some r9:=by kernel_rfl
theorem Hg (on:Bool)(s:Sc):eD on s 1049=tK on s:=by
 unfold eD tK
 rw[if_neg (by decide),if_neg (by decide)]
 by_cases h1:on=true/\s.alt=false
 ·rw[if_pos ⟨rfl,h1.1,h1.2⟩,if_pos h1]
 ·rw[if_neg (fun h=>h1 h.2),if_neg h1]
  by_cases h2:on=false/\s.alt=true
  ·rw[if_pos ⟨rfl,h2.1,h2.2⟩,if_pos h2]
  ·rw[if_neg (fun h=>h2 h.2),if_neg h2]
theorem qF {on:Bool}:∀{ps:List Int} {s:Sc},aR s->aR (ps.foldl (eD on) s)
 | [],s,h=>h
 | k::ps,s,h=>qF (ps:=ps) (Hh h k)
theorem tO {i:Nat}(hi:i<ps.length):(ps.take (i+1)).foldl (eD on) s=eD on ((ps.take i).foldl (eD on) s) (ps.getD i 0):=by
 rw[List.take_succ_eq_append_getElem hi,List.foldl_append]
 simp[List.getD_eq_getElem?_getD,hi]
theorem CO {sz:Nat}{sk:SK}{K:ay->Prop}{Q:Exit->St->Prop}(hs:sz=1\/ps=[])(hl:ps.length<=1000000)(ok:aR s)(h:aB T0 T o s p)
  (hK:∀T',T.length<=T'.length->aB T0 T' o (ps.foldl (eD on) s) p->K T') (hQ:∀env T',K T'->Q .normal ⟨env,T'⟩) :
  bk PG 46 lR (vP 0 Q) ⟨[(0,.ptr o 0 0),(4,.bool on),(19,.sl sz (af .i64 ps) sk),(20,.int .i64 ps.length),(21,.int .i64 0)],T⟩:=by
 refine bk.inv FOk.nil (S:=fun σ:Nat × ay=>⟨[(0,.ptr o 0 0),(4,.bool on),(19,.sl sz (af .i64 ps) sk),(20,.int .i64 ps.length),(21,.int .i64 σ.1)],σ.2⟩)
  (I:=fun σ=>σ.1<=ps.length/\T.length<=σ.2.length/\aB T0 σ.2 o ((ps.take σ.1).foldl (eD on) s) p) (μ:=fun σ=>ps.length-σ.1) (0,T) ⟨by simp,Nat.le_refl _,h⟩ ?_ ?_
 ·simp -implicitDefEqProofs -dsimp only[an,vcS,↓vcQ,simprocAttr]
 ·intro ⟨i,A⟩ ⟨h1,h2,h4⟩
  dsimp only at h1 h2 h4 ⊢
  have oki:=qF (on:=on) (ps:=ps.take i) ok
  have hst:=fun hi=>tO (on:=on) (s:=s) (i:=i) (ps:=ps) hi
  have eV:ps.length<=i->(ps.take i).foldl (eD on) s=ps.foldl (eD on) s:=fun hh=>by rw[List.take_of_length_le hh]
  generalize (ps.take i).foldl (eD on) s=a at *
  obtain ⟨k1,q1,tq1,od1,m1,pr1,f1,f2,f3,pa1,t1⟩:=id h4
  have hb1:=t1.box
  unfold aN at hb1
  have w1:IntKind.i64.wrap ((i:Int)+1)=((i+1:Nat):Int):=by rw[aO (by omega) (by omega)];omega
  rcases Nat.lt_or_ge i ps.length with hlt | hge
  ·have hii:(i:Int)<ps.length:=by omega
   have i0:(0:Int)<=i:=by omega
   have hsz:sz=1:=by rcases hs with h | h;exact h;subst h;simp at hlt
   subst hsz
   have hg:(af .i64 ps)[i]?=some [.int .i64 (ps.getD i 0)]:=by simp[af,hlt]
   have hlr:(af .i64 ps).length=ps.length:=by simp[af]
   have hst:=hst hlt
   generalize ps.getD i 0=k at *
   have done:∀{A':ay},A.length<=A'.length->aB T0 A' o (eD on a k) p->
     ∃s':Nat × ay,(((i+1:Nat):Int)=(s'.1:Int)/\fu A' s'.2)/\(s'.1<=ps.length/\T.length<=s'.2.length/\aB T0 s'.2 o ((ps.take s'.1).foldl (eD on) s) p)/\ps.length-s'.1<ps.length-i:=fun hl ht=>
    ⟨(i+1,_),⟨rfl,aH _⟩,⟨hlt,Nat.le_trans h2 hl,by dsimp only;rw[hst];exact ht⟩,by dsimp only;omega⟩
   unfold lR
   rcases Decidable.em (k=7) with rfl | n7
   ·simp -implicitDefEqProofs -dsimp only[ah,ai hb1,hii,i0,hg,hlr,w1,an,vcS,↓vcQ,simprocAttr]
    exact done (A':=A.set o (some (.box (aN { a with auto:=on} q1 tq1 od1 m1 pr1 f1 f2 f3)))) (by simp) (.mk (k1.put t1.no _) pa1 (t1.put rfl rfl rfl rfl rfl))
   ·rcases Decidable.em (k=25) with rfl | n25
    ·simp -implicitDefEqProofs -dsimp only[ah,ai hb1,hii,i0,hg,hlr,w1,an,vcS,↓vcQ,simprocAttr]
     exact done (A':=A.set o (some (.box (aN { a with shown:=on} q1 tq1 od1 m1 pr1 f1 f2 f3)))) (by simp) (.mk (k1.put t1.no _) pa1 (t1.put rfl rfl rfl rfl rfl))
    ·rcases Decidable.em (k=1049) with rfl | n9
     ·simp -implicitDefEqProofs -dsimp only[ah,ai hb1,hii,i0,hg,hlr,w1,an,vcS,↓vcQ,simprocAttr]
      refine QM oki h4 fun T' l t'=>?_
      simp -implicitDefEqProofs -dsimp only[ah,w1,an,vcS,↓vcQ,simprocAttr]
      exact done l (by rw[Hg];exact t')
     ·have e:eD on a k=a:=by unfold eD;rw[if_neg n7,if_neg n25,if_neg (fun h=>n9 h.1),if_neg (fun h=>n9 h.1)]
      simp -implicitDefEqProofs -dsimp only[ah,ai hb1,hii,i0,hg,hlr,w1,eq_false n7,eq_false n25,eq_false n9,an,vcS,↓vcQ,simprocAttr]
      exact done (Nat.le_refl _) (by rw[e];exact h4)
  ·have hii:¬(i:Int)<ps.length:=by omega
   obtain rfl:i=ps.length:=by omega
   unfold lR
   simp -implicitDefEqProofs -dsimp only[ah,hii,an,vcS,↓vcQ,simprocAttr]
   rw[eV (Nat.le_refl _)] at h4
   exact hQ _ _ (hK _ h2 h4)
def acD (k r b p:Int)(d1 d2:DV):DV:=.agg [.int .i64 k,.int .i32 r,.int .u8 b,.int .u8 p,d1,d2]
theorem QN {sz:Nat}{sk:SK}{ka r b pv:Int}{d2:DV}(hs:sz=1\/ps=[])(hl:ps.length<=1000000)(hd2:DV.one d2=true)(ok:aR s)(h:aB T0 T o s p)
  (hK:∀T',T.length<=T'.length->aB T0 T' o (if b=104\/b=108 then ps.foldl (eD (decide (b=104))) s else s) p->K (.tup []) T'):aj PG 66 [.ptr o 0 0,acD ka r b pv (.sl sz (af .i64 ps) sk) d2] T K:=by
 unfold acD
 rcases Decidable.em (b=104) with rfl | b1
 ·refine aj.aE FOk.nil o5 (by simp[jo]) ?_
  unfold jo
  dsimp only
  rw[if_pos (.inl rfl)] at hK
  simp -implicitDefEqProofs -dsimp only[ah,hd2,vcS,↓vcQ,simprocAttr]
  refine CO (T:=T++ [_]) (K:=fun T'=>T.length<=T'.length/\K (.tup []) T') hs hl ok (h.keep (ax.app _ _ _)) (fun T' l t'=>⟨by simp at l;omega,hK T' (by simp at l;omega) t'⟩) ?_
  exact fun _ _ h=>h
 ·rcases Decidable.em (b=108) with rfl | b2
  ·refine aj.aE FOk.nil o5 (by simp[jo]) ?_
   unfold jo
   dsimp only
   rw[if_pos (.inr rfl)] at hK
   simp -implicitDefEqProofs -dsimp only[ah,hd2,vcS,↓vcQ,simprocAttr]
   refine CO (T:=T++ [_]) (K:=fun T'=>T.length<=T'.length/\K (.tup []) T') hs hl ok (h.keep (ax.app _ _ _)) (fun T' l t'=>⟨by simp at l;omega,hK T' (by simp at l;omega) t'⟩) ?_
   exact fun _ _ h=>h
  ·refine aj.aE FOk.nil o5 (by simp[jo]) ?_
   unfold jo
   dsimp only
   rw[if_neg (by omega)] at hK
   simp -implicitDefEqProofs -dsimp only[ah,hd2,eq_false b1,eq_false b2,vcS,↓vcQ,simprocAttr]
   exact hK _ (by simp) (h.keep (ax.app _ _ _))
theorem aaO {ka r b pv i:Int}{d1 d2:DV}(h1:aD .i64 d1)(hl:(aG d1).length<=1000000)(hd2:DV.one d2=true)(hi:0<=i):av PG 99 [acD ka r b pv d1 d2,.int .i64 i] fun n rr os=>rr=.int .i64 (bF (aG d1) i.toNat)/\os=[]:=by
 obtain ⟨sz,sk,e1,h2,h3⟩:=aC h1
 rw[e1]
 simp only[aL]
 generalize aG d1=ps at *
 unfold acD
 have hlr:(af .i64 ps).length=ps.length:=by simp[af]
 rcases Nat.lt_or_ge i.toNat ps.length with hlt | hge
 ·have hii:i<ps.length:=by omega
  have hg:(af .i64 ps)[i.toNat]?=some [.int .i64 (bF ps i.toNat)]:=by simp[af,hlt,bF]
  have hsz:sz=1:=by rcases h2 with h | h;exact h;subst h;simp at hlt
  subst hsz
  refine av.di (res:=fun n=>(.int .i64 (bF ps i.toNat),[])) FOk.nil zZ (by simp[r9]) fun n=>?_
  unfold r9
  dsimp only
  simp -implicitDefEqProofs -dsimp only[ah,hd2,hii,hi,hg,hlr,vcS,↓vcQ,simprocAttr]
 ·have hii:¬i<ps.length:=by omega
  have e0:bF ps i.toNat=0:=by simp[bF,List.getD_eq_getElem?_getD,List.getElem?_eq_none hge]
  refine av.di (res:=fun n=>(.int .i64 (bF ps i.toNat),[])) FOk.nil zZ (by simp[r9]) fun n=>?_
  unfold r9
  dsimp only
  simp -implicitDefEqProofs -dsimp only[ah,hd2,hii,hi,hlr,e0,vcS,↓vcQ,simprocAttr]
def Bv:List DV->Option aS
 | [.agg [.int .i64 ka,.int .i32 r,.int .u8 b,.int .u8 pv,d1,d2],.int .i64 i]=>some ⟨aD .i64 d1/\(aG d1).length<=1000000/\DV.one d2=true/\0<=i,fun n=>(.int .i64 (bF (aG d1) i.toNat),[])⟩
 | _=>none
theorem cV (ka r b pv i:Int)(d1 d2:DV):Bv [.agg [.int .i64 ka,.int .i32 r,.int .u8 b,.int .u8 pv,d1,d2],.int .i64 i]=some ⟨aD .i64 d1/\(aG d1).length<=1000000/\DV.one d2=true/\0<=i,fun n=>(.int .i64 (bF (aG d1) i.toNat),[])⟩:=ak _
theorem XN (args:List DV)(s:aS)(hs:Bv args=some s)(hp:s.pre):av PG 99 args fun n r os=>r=(s.res n).1/\os=(s.res n).2:=by
 unfold Bv at hs
 split at hs
 ·obtain rfl:=sj hs
  obtain ⟨h1,h2,h3,h4⟩:=hp
  exact aaO h1 h2 h3 h4
 ·cases hs
def Bd:FL:=[(99,.o Bv)]
theorem dZ:FOk PG (tab Bd):=FOk.cons FOk.nil XN
theorem ef (args:List DV):tab Bd 99 args=(Bv args).map .o:=ak _
theorem vZ {b:Int}(hb:b=76\/b=77\/b=83\/b=84):eS s b ps={ Gq s b (max (bF ps 0) 1) with wrap:=false}:=by
 rcases hb with rfl | rfl | rfl | rfl
 ·have e1:eS s 76 ps=if s.top<=s.y/\s.y<=s.bot then { s with wrap:=false,x:=0,cells:=dnF s.cells s.aa s.y s.bot (max (bF ps 0) 1)} else { s with wrap:=false}:=rfl
  have e2:Gq s 76 (max (bF ps 0) 1)=if s.y<s.top\/s.bot<s.y then s else { s with cells:=dnF s.cells s.aa s.y s.bot (max (bF ps 0) 1),x:=0}:=rfl
  rw[e1,e2]
  by_cases h:s.y<s.top\/s.bot<s.y
  ·rw[if_pos h,if_neg (by omega)]
  ·rw[if_neg h,if_pos (by omega)]
 ·have e1:eS s 77 ps=if s.top<=s.y/\s.y<=s.bot then { s with wrap:=false,x:=0,cells:=upF s.cells s.aa s.y s.bot (max (bF ps 0) 1)} else { s with wrap:=false}:=rfl
  have e2:Gq s 77 (max (bF ps 0) 1)=if s.y<s.top\/s.bot<s.y then s else { s with cells:=upF s.cells s.aa s.y s.bot (max (bF ps 0) 1),x:=0}:=rfl
  rw[e1,e2]
  by_cases h:s.y<s.top\/s.bot<s.y
  ·rw[if_pos h,if_neg (by omega)]
  ·rw[if_neg h,if_pos (by omega)]
 ·rfl
 ·rfl
theorem DC:eS s 74 ps={ OX s false (bF ps 0) with wrap:=false}/\eS s 75 ps={ OX s true (bF ps 0) with wrap:=false}:=by
 refine ⟨?_, ?_⟩
 ·show fW s false (bF ps 0)=_
  unfold fW OX
  split <;> rfl
 ·show fW s true (bF ps 0)=_
  unfold fW OX
  split <;> rfl
theorem O4 (ht:s.aP.length=s.aa):eS s 103 ps=KU s (bF ps 0):=by
 show (if bF ps 0=3 then { s with aP:=List.replicate s.aa false} else if bF ps 0=0 then { s with aP:=s.aP.set s.x false} else s)=_
 unfold KU
 by_cases h3:bF ps 0=3
 ·rw[if_pos h3]
  congr 1
  refine List.ext_getElem (by simp[kZ,ht]) fun i h1 h2=>?_
  simp[kZ,h3] at h1 h2 ⊢
  intro h
  exact absurd h (by omega)
 ·rw[if_neg h3]
  by_cases h0:bF ps 0=0
  ·rw[if_pos h0]
   congr 1
   refine List.ext_getElem (by simp[kZ]) fun i h1 h2=>?_
   simp[kZ] at h1 h2
   rw[List.getElem_set]
   simp only[kZ,List.getElem_map,List.getElem_range]
   by_cases e:s.x=i
   ·rw[if_pos e,if_pos ⟨by omega,.inr ⟨h0,e.symm⟩⟩]
   ·rw[if_neg e,if_neg (by omega)]
    simp[List.getD_eq_getElem?_getD,h2]
  ·rw[if_neg h0]
   have:kZ s (bF ps 0) s.aP.length=s.aP:=by
    refine List.ext_getElem (by simp[kZ]) fun i h1 h2=>?_
    simp only[kZ,List.getElem_map,List.getElem_range]
    rw[if_neg (by omega)]
    simp[List.getD_eq_getElem?_getD,h2]
   rw[this]
theorem Zj:eS s 114 ps=aaQ s (max (bF ps 0) 1-1) (bF ps 1):=rfl
end
end Go.Proofs.YtjmnbpilnneonaaGreatDoor
