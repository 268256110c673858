/- Texts G3, G4, G5, G6, G7, G8, H1 in one. -/
import Derived.Test.YtjmnbpilnneonaaGreatDoorN1
set_option linter.unusedVariables false
set_option linter.unusedSimpArgs false
set_option maxRecDepth 10000
namespace Go.Proofs.YtjmnbpilnneonaaGreatDoor
open Go.RowKit
noncomputable section
variable {L:List Ce}{T:ay}{K:DV->ay->Prop}{i off n rows aa q a b:Nat}{r:Int}
def vm:RC:=(SR [BT 6 .lss 5 4] [0,4,5,6] (.seq (.cond (.t 6) .skip (.ext 0)) (.seq (.blk 1 (SR [MV 7 5,MV 2 7] [0,2,4,5] (SR [MV 8 0,MV 9 2,OP 10 (.aT 3 (.t 8) (.t 9)),FA 11 2 10,LD 12 11] [0,2,4,5,12] (.blk 2 (SR [OP 14 (.bin .eql (.t 12) (.c (.int .u8 1))),MV 13 14] [0,2,4,5,12,13] (.cond (.t 13) (SR [MV 15 2,BI 16 .add 15 1,MV 17 0,OP 18 (.len (.t 17)),BT 19 .eql 16 18,MV 20 19,MG 21 0 20 false,MG 22 2 20 false,OG 23 (.bin .add (.t 22) (.c (.int .i64 1))) 20 false,OG 24 (.aT 3 (.t 21) (.t 23)) 20 false,FG 25 2 24 20 false,LG 26 25 20 false,OG 27 (.bin .neq (.t 26) (.c (.int .u8 2))) 20 false,OP 28 (.pick (.t 20) (.c (.bool true)) (.t 27))] [0,2,4,5,28] (.cond (.t 28) (.reg [MV 29 0,MV 30 2,OP 31 (.call 82 []),OP 32 (.aT 3 (.t 29) (.t 30)),SA 3 32 31] 0 [0,4,5]) .skip)) (SR [OP 34 (.bin .eql (.t 12) (.c (.int .u8 2))),MV 33 34] [0,2,4,5,33] (.cond (.t 33) (SR [MV 35 2,BI 36 .eql 35 0,MV 37 36,MG 38 0 37 false,MG 39 2 37 false,OG 40 (.bin .sub (.t 39) (.c (.int .i64 1))) 37 false,OG 41 (.aT 3 (.t 38) (.t 40)) 37 false,FG 42 2 41 37 false,LG 43 42 37 false,OG 44 (.bin .neq (.t 43) (.c (.int .u8 1))) 37 false,OP 45 (.pick (.t 37) (.c (.bool true)) (.t 44))] [0,2,4,5,45] (.cond (.t 45) (.reg [MV 46 0,MV 47 2,OP 48 (.call 82 []),OP 49 (.aT 3 (.t 46) (.t 47)),SA 3 49 48] 0 [0,4,5]) .skip)) .skip)))))))) (.reg [BI 50 .add 5 1,MV 5 50] 0 [0,4,5]))))
def sq:RFn:=⟨1,51,(SR [MV 3 0,OP 4 (.len (.t 3)),OP 5 (.mov (.c (.int .i64 0)))] [0,4,5] (.blk 0 (.loop vm))),[]⟩
theorem EE:aK PG.P (aA PG.P 48 sq) 48=some sq:=by kernel_rfl
theorem AE (h1:1<=rows/\rows<=1000)(h2:1<=aa/\aa<=1000)
  (h:∀T' p,T.length<=p->T'[p]?=some (some (.arr 3 (aq (List.replicate (rows*aa) aM))))->ax T T' []->K (.own p 0 (rows*aa)) T'):aj PG 38 [.int .i64 rows,.int .i64 aa] T K:=by
 have hm:rows*aa<=1000*1000:=Nat.mul_le_mul h1.2 h2.2
 have b1:jV rows=true:=L2 (by omega)
 have b2:jV aa=true:=L2 (by omega)
 have hp:(rows:Int)*aa=((rows*aa:Nat):Int):=by simp
 have hw:IntKind.i64.wrap ((rows:Int)*aa)=((rows*aa:Nat):Int):=by rw[hp];exact aO (by omega) (by omega)
 obtain ⟨m,em⟩:∃m,m=rows*aa:=⟨_,rfl⟩
 rw[<-em] at hw h hm
 have z0:(0:Int)<=(m:Int):=by omega
 have z1:(m:Int)*8<=140737488355328/\(m:Int)<=4611686018427387904:=by omega
 refine aj.aE uj EI (by simp[sB]) ?_
 unfold sB
 dsimp only
 simp -implicitDefEqProofs -dsimp only[hD,dN,b1,b2,hw,z0,z1,Int.le_refl,ah,vcS,↓vcQ,simprocAttr]
 have e0:List.replicate m [DV.int IntKind.i32 0,DV.int IntKind.u16 0,DV.int IntKind.u8 0]=aq (List.replicate m ⟨0,0,0⟩):=AU m ⟨0,0,0⟩
 rw[e0]
 refine xz (L:=List.replicate m ⟨0,0,0⟩) (n:=m) (aZ _ _ _) (by simp) (by simp;omega) fun T2 h2 k2=>?_
 have e1:cy (List.replicate m ⟨0,0,0⟩) 0 (0+m) (List.replicate m aM)=List.replicate m aM:=by simp[cy]
 rw[e1] at h2
 simp -implicitDefEqProofs -dsimp only[hD,dN,vcS,↓vcQ,simprocAttr]
 exact ⟨by have:=k2.1;simp at this;omega,h T2 _ (Nat.le_refl _) h2 ((ax.app T _ []).new k2 (by simp))⟩
def nQ (L:List Ce)(off n i:Nat):List Ce:=cy L off (off+n) (lQ ((L.drop off).take n) i)
theorem kL (ho:off+n<=L.length):(nQ L off n i).length=L.length:=bN (by omega) ho (by rw[kC];simp;omega)
theorem l9 {j:Nat}(ho:off+n<=L.length)(hj:j<n):(nQ L off n i).getD (off+j) aM=if j<i then dK ((L.drop off).take n) j else ((L.drop off).take n).getD j aM:=by
 unfold nQ
 rw[cx (by omega) ho (by rw[kC];simp;omega),if_neg (by omega),if_pos (by omega)]
 have e:off+j-off=j:=by omega
 rw[e,D2 (by simp;omega)]
theorem Gr (ho:off+n<=L.length)(hi:i<n):(nQ L off n i).set (off+i) (dK ((L.drop off).take n) i)=nQ L off n (i+1):=by
 refine dM (by rw[List.length_set,kL ho,kL ho]) fun j hj=>?_
 rw[List.length_set,kL ho] at hj
 rw[mq (by rw[kL ho];omega)]
 by_cases hin:off<=j/\j<off+n
 ·obtain ⟨t,rfl⟩:∃t,j=off+t:=⟨j-off,by omega⟩
  rw[l9 ho (by omega),l9 ho (by omega)]
  by_cases e:t=i
  ·subst e;rw[if_pos rfl,if_pos (by omega)]
  ·rw[if_neg (by omega)]
   by_cases h:t<i
   ·rw[if_pos h,if_pos (by omega)]
   ·rw[if_neg h,if_neg (by omega)]
 ·rw[if_neg (by omega)]
  unfold nQ
  rw[cx (by omega) ho (by rw[kC];simp;omega),cx (by omega) ho (by rw[kC];simp;omega)]
  by_cases h:j<off
  ·rw[if_pos h,if_pos h]
  ·rw[if_neg h,if_neg h,if_neg (by omega),if_neg (by omega)]
theorem NI (ho:off+n<=L.length)(hi:i<n)(h:dK ((L.drop off).take n) i=((L.drop off).take n).getD i aM):nQ L off n i=nQ L off n (i+1):=by
 rw[<-Gr ho hi,h]
 refine dM (by rw[List.length_set]) fun j hj=>?_
 rw[mq (by rw[kL ho];omega)]
 by_cases e:j=off+i
 ·subst e;rw[if_pos rfl,l9 ho hi,if_neg (by omega)]
 ·rw[if_neg e]
theorem rz (hq:T[q]?=some (some (.arr 3 (aq L))))(ho:off+n<=L.length)(hl:L.length<=1000000)
  (h:∀T',T'[q]?=some (some (.arr 3 (aq (cy L off (off+n) (fh ((L.drop off).take n))))))->ax T T' [q]->K (.tup []) T'):aj PG 48 [.own q off n] T K:=by
 refine aj.aE FOk.nil EE (by simp[sq]) ?_
 unfold sq
 dsimp only
 simp -implicitDefEqProofs -dsimp only[ah,ai hq,vcS,↓vcQ,simprocAttr]
 have r0:nQ L off n 0=L:=by
  refine dM (kL ho) fun j hj=>?_
  rw[kL ho] at hj
  unfold nQ
  rw[cx (by omega) ho (by rw[kC];simp;omega),MY,eB,dQ]
  by_cases h1:j<off
  ·rw[if_pos h1]
  ·rw[if_neg h1]
   by_cases h2:j<off+n
   ·rw[if_pos h2,if_pos (by omega)];congr 1;omega
   ·rw[if_neg h2]
 have rn:nQ L off n n=cy L off (off+n) (fh ((L.drop off).take n)):=by
  have hlen:((L.drop off).take n).length=n:=by simp;omega
  have:=F3 ((L.drop off).take n)
  rw[hlen] at this
  unfold nQ
  rw[this]
 rw[<-rn] at h
 obtain ⟨R,eR⟩:∃R,R=(L.drop off).take n:=⟨_,rfl⟩
 have hRl:R.length=n:=by rw[eR];simp;omega
 refine bk.inv FOk.nil (S:=fun s:Nat × ay=>⟨[(0,.own q off n),(4,.int .i64 n),(5,.int .i64 s.1)],s.2⟩)
  (I:=fun s=>s.1<=n/\s.2[q]?=some (some (.arr 3 (aq (nQ L off n s.1))))/\ax T s.2 [q])
  (μ:=fun s=>n-s.1) (0,T) ⟨by simp,by rw[r0];exact hq,ax.refl _ _⟩ ?_ ?_
 ·simp -implicitDefEqProofs -dsimp only[an,vcS,↓vcQ,simprocAttr]
 ·intro ⟨i,A⟩ ⟨h1,h2,h3⟩
  dsimp only at h1 h2 h3 ⊢
  unfold vm
  by_cases hi:i<n
  ·have hii:(i:Int)<n:=by omega
   have hi0:(0:Int)<=(i:Int):=by omega
   have hw1:IntKind.i64.wrap ((i:Int)+1)=((i+1:Nat):Int):=by rw[aO (by omega) (by omega)];omega
   have hlen:=kL (i:=i) ho
   have hP:∀j,j<n->off+j<(nQ L off n i).length:=fun j hj=>by rw[hlen];omega
   have g0:=bf (hP i hi)
   rw[l9 ho hi,if_neg (by omega),<-eR] at g0
   have same:∀{A':ay},A'[q]?=some (some (.arr 3 (aq (nQ L off n i))))->ax T A' [q]->dK R i=R.getD i aM->
     ∃s':Nat × ay,(((i+1:Nat):Int)=(s'.1:Int)/\fu A' s'.2)/\(s'.1<=n/\s'.2[q]?=some (some (.arr 3 (aq (nQ L off n s'.1))))/\ax T s'.2 [q])/\n-s'.1<n-i:=fun a b c=>
    ⟨(i+1,_),⟨rfl,aH _⟩,⟨hi,by rw[<-NI ho hi (by rw[<-eR];exact c)];exact a,b⟩,by dsimp only;omega⟩
   have hb:aM.row=[.int .i32 32,.int .u16 0,.int .u8 0]:=rfl
   have bY:dK R i=aM->(aq (nQ L off n i)).set (off+i) [.int .i32 32,.int .u16 0,.int .u8 0]=aq (nQ L off n (i+1)):=fun e=>by
    rw[<-Gr ho hi,<-eR,e]
    exact bM _ _ aM
   have chg:∀{A':ay},ax A A' []->∃s':Nat × ay,(((i+1:Nat):Int)=(s'.1:Int)/\fu (A'.set q (some (.arr 3 (aq (nQ L off n (i+1)))))) s'.2)/\(s'.1<=n/\s'.2[q]?=some (some (.arr 3 (aq (nQ L off n s'.1))))/\ax T s'.2 [q])/\n-s'.1<n-i:=fun k=>
    ⟨(i+1,_),⟨rfl,aH _⟩,⟨hi,bZ (k.at h2 (by simp)) _,(h3.trans k (k:=[q]) (by simp) (by simp)).trans (ax.set _ q _) (by simp) (by simp)⟩,by dsimp only;omega⟩
   by_cases c1:(R.getD i aM).h=1
   ·by_cases hn:i+1=n
    ·have hn':((i+1:Nat):Int)=n:=by omega
     have hwc:dK R i=aM:=by unfold dK;rw[if_pos (.inl ⟨c1,.inl (by omega)⟩)]
     simp -implicitDefEqProofs -dsimp only[ai h2,hii,hi0,hw1,g0,c1,eq_true hn',an,Nat.zero_add,ah,vcS,↓vcQ,simprocAttr]
     refine qJ fun T' k=>?_
     rw[hb]
     simp -implicitDefEqProofs -dsimp only[ai (k.at h2 (by simp)),hii,hi0,hw1,g0,bY hwc,an,Nat.zero_add,ah,vcS,↓vcQ,simprocAttr]
     exact chg k
    ·have hn':¬((i+1:Nat):Int)=n:=by omega
     have hn1:((i+1:Nat):Int)<n:=by omega
     have hn0:(0:Int)<=((i+1:Nat):Int):=by omega
     have g1:=bf (hP (i+1) (by omega))
     rw[l9 ho (by omega),if_neg (by omega),<-eR] at g1
     by_cases d:(R.getD (i+1) aM).h=2
     ·have hwc:dK R i=R.getD i aM:=by
       unfold dK
       rw[if_neg]
       intro hc
       rcases hc with ⟨_,h5 | h5⟩ | ⟨h5,_⟩
       ·omega
       ·exact h5 d
       ·unfold hAt at h5;omega
      simp -implicitDefEqProofs -dsimp only[ai h2,hii,hi0,hw1,g0,g1,c1,d,eq_false hn',hn1,hn0,an,Nat.zero_add,ah,vcS,↓vcQ,simprocAttr]
      exact same h2 h3 hwc
     ·have hwc:dK R i=aM:=by unfold dK;rw[if_pos (.inl ⟨c1,.inr d⟩)]
      simp -implicitDefEqProofs -dsimp only[ai h2,hii,hi0,hw1,g0,g1,c1,d,eq_false hn',hn1,hn0,an,Nat.zero_add,ah,vcS,↓vcQ,simprocAttr]
      refine qJ fun T' k=>?_
      rw[hb]
      simp -implicitDefEqProofs -dsimp only[ai (k.at h2 (by simp)),hii,hi0,hw1,g0,bY hwc,an,Nat.zero_add,ah,vcS,↓vcQ,simprocAttr]
      exact chg k
   ·by_cases c2:(R.getD i aM).h=2
    ·by_cases hn:i=0
     ·have hn':(i:Int)=0:=by omega
      have hwc:dK R i=aM:=by unfold dK;rw[if_pos (.inr ⟨c2,.inl hn⟩)]
      simp -implicitDefEqProofs -dsimp only[ai h2,hii,hi0,hw1,g0,c2,eq_true hn',an,Nat.zero_add,ah,vcS,↓vcQ,simprocAttr]
      refine qJ fun T' k=>?_
      rw[hb]
      simp -implicitDefEqProofs -dsimp only[ai (k.at h2 (by simp)),hii,hi0,hw1,g0,bY hwc,an,Nat.zero_add,ah,vcS,↓vcQ,simprocAttr]
      exact chg k
     ·have hn':¬(i:Int)=0:=by omega
      have hw2:IntKind.i64.wrap ((i:Int)-1)=((i-1:Nat):Int):=by rw[aO (by omega) (by omega)];omega
      have hn1:((i-1:Nat):Int)<n:=by omega
      have hn0:(0:Int)<=((i-1:Nat):Int):=by omega
      have g1:=bf (hP (i-1) (by omega))
      rw[l9 ho (by omega),if_pos (by omega),<-eR] at g1
      have hwl:=Jg (L:=R) (i:=i-1) (by omega) (by have:i-1+1=i:=(by omega);rw[this];exact c2)
      by_cases d:(dK R (i-1)).h=1
      ·have hwc:dK R i=R.getD i aM:=by
        unfold dK
        rw[if_neg]
        intro hc
        rcases hc with ⟨h5,_⟩ | ⟨_,h5 | h5⟩
        ·exact c1 h5
        ·omega
        ·exact h5 (hwl.1 d)
       simp -implicitDefEqProofs -dsimp only[ai h2,hii,hi0,hw1,hw2,g0,g1,c2,d,eq_false hn',hn1,hn0,an,Nat.zero_add,ah,vcS,↓vcQ,simprocAttr]
       exact same h2 h3 hwc
      ·have hwc:dK R i=aM:=by unfold dK;rw[if_pos (.inr ⟨c2,.inr fun h5=>d (hwl.2 h5)⟩)]
       simp -implicitDefEqProofs -dsimp only[ai h2,hii,hi0,hw1,hw2,g0,g1,c2,d,eq_false hn',hn1,hn0,an,Nat.zero_add,ah,vcS,↓vcQ,simprocAttr]
       refine qJ fun T' k=>?_
       rw[hb]
       simp -implicitDefEqProofs -dsimp only[ai (k.at h2 (by simp)),hii,hi0,hw1,g0,bY hwc,an,Nat.zero_add,ah,vcS,↓vcQ,simprocAttr]
       exact chg k
    ·simp -implicitDefEqProofs -dsimp only[ai h2,hii,hi0,hw1,g0,c1,c2,an,Nat.zero_add,ah,vcS,↓vcQ,simprocAttr]
     refine same h2 h3 ?_
     unfold dK hAt
     rw[if_neg (by omega)]
  ·have hii:¬(i:Int)<n:=by omega
   simp -implicitDefEqProofs -dsimp only[ai h2,hii,an,vcS,↓vcQ,simprocAttr]
   obtain rfl:i=n:=by omega
   exact ⟨h3.1,h _ h2 h3⟩
def zc:RFn:=⟨5,52,(SR [OP 10 (.mov (.c (.sl 0 [] .nil)))] [0,1,2,3,4] (SR [MV 15 0,OP 16 (.call 43 [.t 15]),MV 11 16] [1,2,3,4,11] (.seq (SR [MV 17 11,MV 18 1,MV 19 2,OP 20 (.call 44 [.t 17,.t 18,.t 19]),MV 12 20] [1,3,4,11,12] (SR [MV 21 12,OP 22 (.jM true (.t 21) (.c (.sl 0 [] .nil))),MV 23 22,MG 24 3 23 true,OG 25 (.bin .geq (.t 24) (.c (.int .i64 0))) 23 true,OP 26 (.pick (.t 23) (.t 25) (.c (.bool false))),MV 27 26,MG 28 3 27 true,MG 29 1 27 true,OG 30 (.bin .leq (.t 28) (.t 29)) 27 true,OP 31 (.pick (.t 27) (.t 30) (.c (.bool false)))] [3,4,11,12,31] (.cond (.t 31) (SR [MV 32 12,MV 33 3,OP 34 (.slice 3 (.t 32) (some (.t 33)) none none),MV 13 34] [4,11,12,13] (SR [MV 35 4,OP 36 (.call 132 [.t 35]),MV 37 13,OP 38 (.len (.t 37)),OP 39 (.mm false (.t 36) (.t 38)),MV 14 39] [11,12,13,14] (SR [MV 40 13,MV 41 14,OP 42 (.slice 3 (.t 40) (some (.t 41)) none none),MV 43 13,OP 44 (.copy 3 (.t 42) (.t 43))] [11,12,13,14] (SR [MV 45 13,MV 46 14,OP 47 (.slice 3 (.t 45) none (some (.t 46)) none),OP 48 (.call 77 [.t 47])] [11,12] (.reg [MV 49 12,OP 50 (.call 48 [.t 49])] 0 [11]))))) .skip))) (SR [MV 51 11,MV 10 51] [10] .ret)))),[.t 10]⟩
theorem J3:aK PG.P (aA PG.P 103 zc) 103=some zc:=by kernel_rfl
def ze:RFn:=⟨5,55,(SR [OP 10 (.mov (.c (.sl 0 [] .nil)))] [0,1,2,3,4] (SR [MV 15 0,OP 16 (.call 43 [.t 15]),MV 11 16] [1,2,3,4,11] (.seq (SR [MV 17 11,MV 18 1,MV 19 2,OP 20 (.call 44 [.t 17,.t 18,.t 19]),MV 12 20] [1,3,4,11,12] (SR [MV 21 12,OP 22 (.jM true (.t 21) (.c (.sl 0 [] .nil))),MV 23 22,MG 24 3 23 true,OG 25 (.bin .geq (.t 24) (.c (.int .i64 0))) 23 true,OP 26 (.pick (.t 23) (.t 25) (.c (.bool false))),MV 27 26,MG 28 3 27 true,MG 29 1 27 true,OG 30 (.bin .leq (.t 28) (.t 29)) 27 true,OP 31 (.pick (.t 27) (.t 30) (.c (.bool false)))] [3,4,11,12,31] (.cond (.t 31) (SR [MV 32 12,MV 33 3,OP 34 (.slice 3 (.t 32) (some (.t 33)) none none),MV 13 34] [4,11,12,13] (SR [MV 35 4,OP 36 (.call 132 [.t 35]),MV 37 13,OP 38 (.len (.t 37)),OP 39 (.mm false (.t 36) (.t 38)),MV 14 39] [11,12,13,14] (SR [MV 40 13,MV 41 13,MV 42 14,OP 43 (.slice 3 (.t 41) (some (.t 42)) none none),OP 44 (.copy 3 (.t 40) (.t 43))] [11,12,13,14] (SR [MV 45 13,MV 46 13,OP 47 (.len (.t 46)),MV 48 14,BT 49 .sub 47 48,OP 50 (.slice 3 (.t 45) (some (.t 49)) none none),OP 51 (.call 77 [.t 50])] [11,12] (.reg [MV 52 12,OP 53 (.call 48 [.t 52])] 0 [11]))))) .skip))) (SR [MV 54 11,MV 10 54] [10] .ret)))),[.t 10]⟩
theorem J5:aK PG.P (aA PG.P 104 ze) 104=some ze:=by kernel_rfl
def zd:RFn:=⟨5,39,(SR [OP 10 (.mov (.c (.sl 0 [] .nil)))] [0,1,2,3,4] (SR [MV 13 0,OP 14 (.call 43 [.t 13]),MV 11 14] [1,2,3,4,11] (.seq (SR [MV 15 11,MV 16 1,MV 17 2,OP 18 (.call 44 [.t 15,.t 16,.t 17]),MV 12 18] [1,3,4,11,12] (SR [MV 19 12,OP 20 (.jM true (.t 19) (.c (.sl 0 [] .nil)))] [1,3,4,11,12,20] (.cond (.t 20) (SR [MV 21 3,OP 22 (.mm true (.t 21) (.c (.int .i64 0))),MV 23 1,OP 24 (.mm false (.t 22) (.t 23)),MV 25 4,OP 26 (.mm true (.t 25) (.c (.int .i64 0))),MV 27 1,OP 28 (.mm false (.t 26) (.t 27)),MV 3 24,MV 4 28] [3,4,11,12] (SR [MV 29 12,MV 30 3,MV 31 3,MV 32 4,OP 33 (.mm true (.t 31) (.t 32)),OP 34 (.slice 3 (.t 29) (some (.t 30)) (some (.t 33)) none),OP 35 (.call 77 [.t 34])] [11,12] (.reg [MV 36 12,OP 37 (.call 48 [.t 36])] 0 [11]))) .skip))) (SR [MV 38 11,MV 10 38] [10] .ret)))),[.t 10]⟩
theorem J4:aK PG.P (aA PG.P 105 zd) 105=some zd:=by kernel_rfl
theorem gD (args:List DV):tab TG3 44 args=none:=ak _
theorem gC (args:List DV):tab TG3 48 args=none:=ak _
theorem Al {M X:List Ce}{o e:Nat}(h1:o<=a)(h2:a<=b)(h3:b<=e)(h4:e<=L.length)(hM:M.length=b-a)(hX:X.length=e-o):cy (cy L a b M) o e X=cy L o e X:=by
 have l1:(cy L a b M).length=L.length:=bN h2 (by omega) hM
 refine dM (by rw[bN (by omega) (by omega) hX,bN (by omega) h4 hX,l1]) fun i hi=>?_
 rw[cx (by omega) (by omega) hX,cx (by omega) h4 hX,cx h2 (by omega) hM]
 by_cases c1:i<o
 ·rw[if_pos c1,if_pos c1,if_pos (by omega)]
 ·rw[if_neg c1,if_neg c1]
  by_cases c2:i<e
  ·rw[if_pos c2,if_pos c2]
  ·rw[if_neg c2,if_neg c2,if_neg (by omega),if_neg (by omega)]
theorem Ak {M:List Ce}{o e:Nat}(h1:o<=a)(h2:a<=b)(h3:b<=e)(h4:e<=L.length)(hM:M.length=b-a):((cy L a b M).drop o).take (e-o)=cy ((L.drop o).take (e-o)) (a-o) (b-o) M:=by
 have l1:(cy L a b M).length=L.length:=bN h2 (by omega) hM
 have l2:((L.drop o).take (e-o)).length=e-o:=by simp;omega
 refine dM (by rw[bN (by omega) (by omega) (by omega),l2];simp;omega) fun i hi=>?_
 have hi':i<e-o:=by rw[List.length_take] at hi;omega
 rw[eB,if_pos hi',dQ,cx h2 (by omega) hM,cx (by omega) (by omega) (by omega),eB,if_pos hi',dQ]
 by_cases c1:o+i<a
 ·rw[if_pos c1,if_pos (show i<a-o by omega)]
 ·rw[if_neg c1,if_neg (show ¬i<a-o by omega)]
  by_cases c2:o+i<b
  ·rw[if_pos c2,if_pos (show i<b-o by omega)];congr 1;omega
  ·rw[if_neg c2,if_neg (show ¬i<b-o by omega)]
theorem abJ {y x:Nat}{n:Int}(hq:T[q]?=some (some (.arr 3 (aq L))))(g:bU L rows aa)(hy:y<rows)(hx:x<=aa)
  (h:∀T' p,T.length<=p->T'[p]?=some (some (.arr 3 (aq (BZ L aa y x n))))->ax T T' []->K (.own p 0 L.length) T'):aj PG 103 [.own q 0 L.length,.int .i64 aa,.int .i64 y,.int .i64 x,.int .i64 n] T K:=by
 have h1:=g.r
 have h2:=g.c
 have hl:=g.lim
 have hrow:=cY (aa:=aa) hy
 have qI:=bx y aa
 have hgl:=g.len
 have hn:bz n<=1000:=by unfold bz;omega
 refine aj.aE uj J3 (by simp[zc]) ?_
 unfold zc
 dsimp only
 simp -implicitDefEqProofs -dsimp only[hD,eH,gD,gC,dN,ai hq,vcS,↓vcQ,simprocAttr]
 refine qM hq (by omega) hl.2 hl.1 fun T' p hp hA kp=>?_
 simp only[List.drop_zero,List.take_length] at hA
 simp -implicitDefEqProofs -dsimp only[hD,eH,gD,gC,dN,ai hA,vcS,↓vcQ,simprocAttr]
 refine xp hA g hy ?_
 obtain ⟨o,eo⟩:∃o,o=y*aa:=⟨_,rfl⟩
 unfold BZ kP cM at h
 rw[<-eo] at h ⊢
 obtain ⟨a,ea⟩:∃a,a=o+x:=⟨_,rfl⟩
 obtain ⟨m,em⟩:∃m,m=aa-x:=⟨_,rfl⟩
 obtain ⟨k,ek⟩:∃k,k=min (bz n) m:=⟨_,rfl⟩
 have hmin:min ((bz n:Nat):Int) ((m:Nat):Int)=(k:Int):=by omega
 have x0:(0:Int)<=(x:Int):=by omega
 have x1:(x:Int)<=aa:=by omega
 have c0:0<aa:=by omega
 have k0:(0:Int)<=(k:Int):=by omega
 have k1:k<=m:=by omega
 have al:a+m<=L.length:=by omega
 have ol:o+aa<=L.length:=by omega
 have hM:((L.drop a).take m).length=m:=by simp;omega
 have hmm:min m (m-k)=m-k:=by omega
 have htk:(List.take (m-k) (List.take m (L.drop a)))=List.take (m-k) (L.drop a):=by rw[List.take_take,Nat.min_eq_left (by omega)]
 have hcp:aq (List.take (a+k) L)++(aq (List.take (m-k) (List.drop a L))++aq (List.drop (a+(k+(m-k))) L))=aq (cy L (a+k) (a+k+(m-k)) ((L.drop a).take (m-k))):=by rw[iC,iC];simp[cy,Nat.add_assoc]
 have z3:a+(k+(m-k))<=L.length:=by omega
 simp -implicitDefEqProofs -dsimp only[hD,eH,gD,gC,dN,ai hA,<-ea,<-em,hmin,x0,x1,hx,c0,k0,k1,al,ol,z3,az,jx,jw,hM,hmm,htk,hcp,vcS,↓vcQ,simprocAttr]
 have hbm:a+m-a=m:=by omega
 have m1:((L.drop a).take (m-k)).length=a+k+(m-k)-(a+k):=by simp;omega
 have l1:(cy L (a+k) (a+k+(m-k)) ((L.drop a).take (m-k))).length=L.length:=bN (by omega) (by omega) m1
 have hz:a+(k+(m-k))=a+k+(m-k):=(Nat.add_assoc _ _ _).symm
 refine ⟨Nat.zero_le _, ?_⟩
 refine xz (L:=cy L (a+k) (a+(k+(m-k))) ((L.drop a).take (m-k))) (n:=k) (bZ hA _) (by rw[hz,l1];omega) (by rw[hz,l1];omega) fun T2 h2 k2=>?_
 have hd:=aak (L:=L) (a:=a) (b:=a+m) (k:=k) (k0:=bz n) (by omega) al (by rw[hbm];exact ek)
 rw[hbm] at hd
 rw[hz,hd] at h2
 have m2:(oO (bz n) ((L.drop a).take m)).length=a+m-a:=by rw[kG,hM];omega
 have l2:(cy L a (a+m) (oO (bz n) ((L.drop a).take m))).length=L.length:=bN (by omega) al m2
 simp -implicitDefEqProofs -dsimp only[hD,eH,gD,gC,dN,vcS,↓vcQ,simprocAttr]
 refine rz h2 (by rw[l2];exact ol) (by rw[l2];exact hl.1) fun T3 h3 k3=>?_
 simp -implicitDefEqProofs -dsimp only[hD,eH,gD,gC,dN,vcS,↓vcQ,simprocAttr]
 have hoc:o+aa-o=aa:=by omega
 have hp2:=Ak (L:=L) (M:=oO (bz n) ((L.drop a).take m)) (o:=o) (a:=a) (b:=a+m) (e:=o+aa) (by omega) (by omega) (by omega) ol m2
 rw[hoc] at hp2
 rw[hp2,Al (by omega) (by omega) (by omega) ol m2 (by rw[bQ,bN (by omega) (by simp;omega) (by rw[m2];omega)];simp;omega)] at h3
 have eV:cy ((L.drop o).take aa) (a-o) (a+m-o) (oO (bz n) ((L.drop a).take m))=((L.drop o).take aa).take x++oO (bz n) (((L.drop o).take aa).drop x):=by
  have e1:a-o=x:=by omega
  have e2:((L.drop o).take aa).drop x=(L.drop a).take m:=by rw[List.drop_take,List.drop_drop,ea,em]
  have e3:((L.drop o).take aa).drop (a+m-o)=[]:=List.drop_eq_nil_of_le (by simp;omega)
  unfold cy
  rw[e1,e2,e3,List.append_nil]
 rw[eV] at h3
 rw[qI,<-eo] at h
 exact ⟨by have a1:=kp.1;have a2:=k2.1;have a3:=k3.1;rw[List.length_set] at a2;omega,h T3 p hp h3 (kp.new ((ax.set T' p _).trans (k2.trans k3 (k:=[p]) (by simp) (by simp)) (k:=[p]) (by simp) (by simp)) (by simpa using hp))⟩
theorem abL {y x:Nat}{n:Int}(hq:T[q]?=some (some (.arr 3 (aq L))))(g:bU L rows aa)(hy:y<rows)(hx:x<=aa)
  (h:∀T' p,T.length<=p->T'[p]?=some (some (.arr 3 (aq (B5 L aa y x n))))->ax T T' []->K (.own p 0 L.length) T'):aj PG 104 [.own q 0 L.length,.int .i64 aa,.int .i64 y,.int .i64 x,.int .i64 n] T K:=by
 have h1:=g.r
 have h2:=g.c
 have hl:=g.lim
 have hrow:=cY (aa:=aa) hy
 have qI:=bx y aa
 have hgl:=g.len
 have hn:bz n<=1000:=by unfold bz;omega
 refine aj.aE uj J5 (by simp[ze]) ?_
 unfold ze
 dsimp only
 simp -implicitDefEqProofs -dsimp only[hD,eH,gD,gC,dN,ai hq,vcS,↓vcQ,simprocAttr]
 refine qM hq (by omega) hl.2 hl.1 fun T' p hp hA kp=>?_
 simp only[List.drop_zero,List.take_length] at hA
 simp -implicitDefEqProofs -dsimp only[hD,eH,gD,gC,dN,ai hA,vcS,↓vcQ,simprocAttr]
 refine xp hA g hy ?_
 obtain ⟨o,eo⟩:∃o,o=y*aa:=⟨_,rfl⟩
 unfold B5 kP cM at h
 rw[<-eo] at h ⊢
 obtain ⟨a,ea⟩:∃a,a=o+x:=⟨_,rfl⟩
 obtain ⟨m,em⟩:∃m,m=aa-x:=⟨_,rfl⟩
 obtain ⟨k,ek⟩:∃k,k=min (bz n) m:=⟨_,rfl⟩
 have hmin:min ((bz n:Nat):Int) ((m:Nat):Int)=(k:Int):=by omega
 have x0:(0:Int)<=(x:Int):=by omega
 have x1:(x:Int)<=aa:=by omega
 have c0:0<aa:=by omega
 have k0:(0:Int)<=(k:Int):=by omega
 have k1:k<=m:=by omega
 have al:a+m<=L.length:=by omega
 have ol:o+aa<=L.length:=by omega
 have hM0:((L.drop a).take m).length=m:=by simp;omega
 have hM:((L.drop (a+k)).take (m-k)).length=m-k:=by simp;omega
 have hmm:min (m-k) m=m-k:=by omega
 have htk:(List.take (m-k) (List.take (m-k) (L.drop (a+k))))=List.take (m-k) (L.drop (a+k)):=by rw[List.take_take,Nat.min_self]
 have hcp:aq (List.take a L)++(aq (List.take (m-k) (List.drop (a+k) L))++aq (List.drop (a+(m-k)) L))=aq (cy L a (a+(m-k)) ((L.drop (a+k)).take (m-k))):=by rw[iC,iC];simp[cy]
 have hw5:IntKind.i64.wrap ((m:Int)-(k:Int))=((m-k:Nat):Int):=by rw[aO (by omega) (by omega)];omega
 have z5:(0:Int)<=((m-k:Nat):Int):=by omega
 have z6:m-k<=m:=by omega
 have z7:m-(m-k)=k:=by omega
 have z3:a+(k+(m-k))<=L.length:=by omega
 simp -implicitDefEqProofs -dsimp only[hD,eH,gD,gC,dN,ai hA,<-ea,<-em,hmin,x0,x1,hx,c0,k0,k1,al,ol,z3,az,jx,jw,hM,hmm,htk,hcp,hw5,z5,z6,z7,vcS,↓vcQ,simprocAttr]
 have hbm:a+m-a=m:=by omega
 have m1:((L.drop (a+k)).take (m-k)).length=a+(m-k)-a:=by rw[hM];omega
 have l1:(cy L a (a+(m-k)) ((L.drop (a+k)).take (m-k))).length=L.length:=bN (by omega) (by omega) m1
 refine xz (L:=cy L a (a+(m-k)) ((L.drop (a+k)).take (m-k))) (n:=k) (bZ hA _) (by rw[l1];omega) (by rw[l1];omega) fun T2 h2 k2=>?_
 have hd:=Z5 (L:=L) (a:=a) (b:=a+m) (k:=k) (k0:=bz n) (by omega) al (by rw[hbm];exact ek)
 rw[hbm] at hd
 rw[hd] at h2
 have m2:(oN (bz n) ((L.drop a).take m)).length=a+m-a:=by rw[kE,hM0];omega
 have l2:(cy L a (a+m) (oN (bz n) ((L.drop a).take m))).length=L.length:=bN (by omega) al m2
 simp -implicitDefEqProofs -dsimp only[hD,eH,gD,gC,dN,vcS,↓vcQ,simprocAttr]
 refine rz h2 (by rw[l2];exact ol) (by rw[l2];exact hl.1) fun T3 h3 k3=>?_
 simp -implicitDefEqProofs -dsimp only[hD,eH,gD,gC,dN,vcS,↓vcQ,simprocAttr]
 have hoc:o+aa-o=aa:=by omega
 have hp2:=Ak (L:=L) (M:=oN (bz n) ((L.drop a).take m)) (o:=o) (a:=a) (b:=a+m) (e:=o+aa) (by omega) (by omega) (by omega) ol m2
 rw[hoc] at hp2
 rw[hp2,Al (by omega) (by omega) (by omega) ol m2 (by rw[bQ,bN (by omega) (by simp;omega) (by rw[m2];omega)];simp;omega)] at h3
 have eV:cy ((L.drop o).take aa) (a-o) (a+m-o) (oN (bz n) ((L.drop a).take m))=((L.drop o).take aa).take x++oN (bz n) (((L.drop o).take aa).drop x):=by
  have e1:a-o=x:=by omega
  have e2:((L.drop o).take aa).drop x=(L.drop a).take m:=by rw[List.drop_take,List.drop_drop,ea,em]
  have e3:((L.drop o).take aa).drop (a+m-o)=[]:=List.drop_eq_nil_of_le (by simp;omega)
  unfold cy
  rw[e1,e2,e3,List.append_nil]
 rw[eV] at h3
 rw[qI,<-eo] at h
 exact ⟨by have a1:=kp.1;have a2:=k2.1;have a3:=k3.1;rw[List.length_set] at a2;omega,h T3 p hp h3 (kp.new ((ax.set T' p _).trans (k2.trans k3 (k:=[p]) (by simp) (by simp)) (k:=[p]) (by simp) (by simp)) (by simpa using hp))⟩
theorem xu {y:Nat}{f t:Int}(hq:T[q]?=some (some (.arr 3 (aq L))))(g:bU L rows aa)(hy:y<rows)
  (h:∀T' p,T.length<=p->T'[p]?=some (some (.arr 3 (aq (kY L aa y f t))))->ax T T' []->K (.own p 0 L.length) T'):aj PG 105 [.own q 0 L.length,.int .i64 aa,.int .i64 y,.int .i64 f,.int .i64 t] T K:=by
 have h1:=g.r
 have h2:=g.c
 have hl:=g.lim
 have hrow:=cY (aa:=aa) hy
 have qI:=bx y aa
 have hgl:=g.len
 refine aj.aE uj J4 (by simp[zd]) ?_
 unfold zd
 dsimp only
 simp -implicitDefEqProofs -dsimp only[hD,eH,gD,gC,dN,ai hq,vcS,↓vcQ,simprocAttr]
 refine qM hq (by omega) hl.2 hl.1 fun T' p hp hA kp=>?_
 simp only[List.drop_zero,List.take_length] at hA
 simp -implicitDefEqProofs -dsimp only[hD,eH,gD,gC,dN,ai hA,vcS,↓vcQ,simprocAttr]
 refine xp hA g hy ?_
 obtain ⟨o,eo⟩:∃o,o=y*aa:=⟨_,rfl⟩
 unfold kY kP cM at h
 rw[<-eo] at h ⊢
 obtain ⟨a,ea⟩:∃a,a=cP f aa:=⟨_,rfl⟩
 obtain ⟨b,eb⟩:∃b,b=cP t aa:=⟨_,rfl⟩
 rw[<-ea,<-eb] at h
 obtain ⟨c,ec⟩:∃c,c=max a b:=⟨_,rfl⟩
 rw[<-ec] at h
 unfold cP at ea eb
 have ha:min (max f 0) (aa:Int)=(a:Int):=by omega
 have hb:min (max t 0) (aa:Int)=(b:Int):=by omega
 have hc:max (a:Int) (b:Int)=(c:Int):=by omega
 have c0:0<aa:=by omega
 have ac:a<=c:=by omega
 have cc:c<=aa:=by omega
 have ol:o+aa<=L.length:=by omega
 simp -implicitDefEqProofs -dsimp only[hD,eH,gD,gC,dN,ai hA,ha,hb,hc,c0,ac,cc,ol,az,vcS,↓vcQ,simprocAttr]
 refine ⟨by omega,by omega, ?_⟩
 refine xz (n:=c-a) hA (by omega) hl.1 fun T2 h2 k2=>?_
 have ael:o+a+(c-a)=o+c:=by omega
 rw[ael] at h2
 have m2:(List.replicate (c-a) aM).length=(o+c)-(o+a):=by simp;omega
 have l2:(cy L (o+a) (o+c) (List.replicate (c-a) aM)).length=L.length:=bN (by omega) (by omega) m2
 simp -implicitDefEqProofs -dsimp only[hD,eH,gD,gC,dN,vcS,↓vcQ,simprocAttr]
 refine rz h2 (by rw[l2];exact ol) (by rw[l2];exact hl.1) fun T3 h3 k3=>?_
 simp -implicitDefEqProofs -dsimp only[hD,eH,gD,gC,dN,vcS,↓vcQ,simprocAttr]
 have hoc:o+aa-o=aa:=by omega
 have hp2:=Ak (L:=L) (M:=List.replicate (c-a) aM) (o:=o) (a:=o+a) (b:=o+c) (e:=o+aa) (by omega) (by omega) (by omega) ol m2
 rw[hoc] at hp2
 have e1:o+a-o=a:=by omega
 have e2:o+c-o=c:=by omega
 rw[e1,e2] at hp2
 rw[hp2,Al (by omega) (by omega) (by omega) ol m2 (by rw[bQ,bN (by omega) (by simp;omega) (by simp)];simp;omega)] at h3
 rw[qI,<-eo] at h
 exact ⟨by have a1:=kp.1;have a2:=k2.1;have a3:=k3.1;omega,h T3 p hp h3 (kp.new (k2.trans k3 (k:=[p]) (by simp) (by simp)) (by simpa using hp))⟩
def mj:RFn:=⟨1,8,(SR [OP 2 (.mov (.c (.sl 0 [] .nil)))] [0] (.seq (SR [MV 3 0,OP 4 (.jM false (.t 3) (.c (.sl 0 [] .nil)))] [0,4] (.cond (.t 4) (SR [OP 2 (.mov (.c (.sl 0 [] .nil)))] [2] .ret) .skip)) (SR [OP 5 (.bK 1 [.bool false] 0 []),MV 6 0,OP 7 (.append 1 1 (.t 5) (.t 6)),MV 2 7] [2] .ret))),[.t 2]⟩
theorem vw:aK PG.P (aA PG.P 56 mj) 56=some mj:=by kernel_rfl
def vh:RFn:=⟨1,6,(SR [MB 2 false] [0] (SR [MV 3 0,OP 4 (.build [.int .i32 0,.int .u16 0,.int .u8 0] [(0,(1,(.c (.int .i32 32)))),(1,(1,(.t 3)))]),OP 5 (.call 47 [.t 4]),MV 2 5] [2] .ret)),[.t 2]⟩
theorem GK:aK PG.P (aA PG.P 28 vh) 28=some vh:=by kernel_rfl
def bg (L:List Bool):List (List DV):=L.map fun b=> [.bool b]
theorem aY (L:List Bool):(bg L).length=L.length:=by simp[bg]
theorem fl {L:List Bool}(h:i<L.length):(bg L)[i]?=some [.bool (L.getD i false)]:=by simp[bg,h]
theorem jg (L:List Bool)(i:Nat)(b:Bool):(bg L).set i [.bool b]=bg (L.set i b):=by simp[bg,List.map_set]
theorem pR (n:Nat)(b:Bool):List.replicate n [DV.bool b]=bg (List.replicate n b):=by simp[bg]
def rR:RFn:=⟨0,24,(SR [OP 0 (.alloc [.int .i32 0,.int .i32 0,.int .i64 0,.int .i32 0,.int .i32 0,.int .i64 0,.int .i32 0,.int .i32 0,.int .i64 0,.int .i32 0,.int .i32 0,.int .i64 0,.int .i32 0,.int .i32 0,.int .i64 0,.int .i32 0,.int .i32 0,.int .i64 0,.int .i32 0,.int .i32 0,.int .i64 0,.int .i32 0,.int .i32 0,.int .i64 0,.int .i32 0,.int .i32 0,.int .i64 0,.int .i32 0,.int .i32 0,.int .i64 0,.int .i32 0,.int .i32 0,.int .i64 0,.int .i32 0,.int .i32 0,.int .i64 0,.int .i32 0,.int .i32 0,.int .i64 0,.int .i32 0,.int .i32 0,.int .i64 0,.int .i32 0,.int .i32 0,.int .i64 0,.int .i32 0,.int .i32 0,.int .i64 0,.int .i32 0,.int .i32 0,.int .i64 0,.int .i32 0,.int .i32 0,.int .i64 0,.int .i32 0,.int .i32 0,.int .i64 0,.int .i32 0,.int .i32 0,.int .i64 0,.int .i32 0,.int .i32 0,.int .i64 0,.int .i32 0,.int .i32 0,.int .i64 0])] [0] (SR [OP 1 (.build [.int .i32 0,.int .i32 0,.int .i64 0] [(0,(1,(.c (.int .i32 0)))),(1,(1,(.c (.int .i32 31)))),(2,(1,(.c (.int .i64 0))))]),OP 2 (.build [.int .i32 0,.int .i32 0,.int .i64 0] [(0,(1,(.c (.int .i32 127)))),(1,(1,(.c (.int .i32 159)))),(2,(1,(.c (.int .i64 0))))]),OP 3 (.build [.int .i32 0,.int .i32 0,.int .i64 0] [(0,(1,(.c (.int .i32 768)))),(1,(1,(.c (.int .i32 879)))),(2,(1,(.c (.int .i64 0))))]),OP 4 (.build [.int .i32 0,.int .i32 0,.int .i64 0] [(0,(1,(.c (.int .i32 4352)))),(1,(1,(.c (.int .i32 4447)))),(2,(1,(.c (.int .i64 2))))]),OP 5 (.build [.int .i32 0,.int .i32 0,.int .i64 0] [(0,(1,(.c (.int .i32 8203)))),(1,(1,(.c (.int .i32 8207)))),(2,(1,(.c (.int .i64 0))))]),OP 6 (.build [.int .i32 0,.int .i32 0,.int .i64 0] [(0,(1,(.c (.int .i32 11904)))),(1,(1,(.c (.int .i32 12350)))),(2,(1,(.c (.int .i64 2))))]),OP 7 (.build [.int .i32 0,.int .i32 0,.int .i64 0] [(0,(1,(.c (.int .i32 12353)))),(1,(1,(.c (.int .i32 13311)))),(2,(1,(.c (.int .i64 2))))]),OP 8 (.build [.int .i32 0,.int .i32 0,.int .i64 0] [(0,(1,(.c (.int .i32 13312)))),(1,(1,(.c (.int .i32 19903)))),(2,(1,(.c (.int .i64 2))))]),OP 9 (.build [.int .i32 0,.int .i32 0,.int .i64 0] [(0,(1,(.c (.int .i32 19968)))),(1,(1,(.c (.int .i32 40959)))),(2,(1,(.c (.int .i64 2))))]),OP 10 (.build [.int .i32 0,.int .i32 0,.int .i64 0] [(0,(1,(.c (.int .i32 40960)))),(1,(1,(.c (.int .i32 42191)))),(2,(1,(.c (.int .i64 2))))]),OP 11 (.build [.int .i32 0,.int .i32 0,.int .i64 0] [(0,(1,(.c (.int .i32 44032)))),(1,(1,(.c (.int .i32 55203)))),(2,(1,(.c (.int .i64 2))))]),OP 12 (.build [.int .i32 0,.int .i32 0,.int .i64 0] [(0,(1,(.c (.int .i32 55296)))),(1,(1,(.c (.int .i32 57343)))),(2,(1,(.c (.int .i64 0))))]),OP 13 (.build [.int .i32 0,.int .i32 0,.int .i64 0] [(0,(1,(.c (.int .i32 63744)))),(1,(1,(.c (.int .i32 64255)))),(2,(1,(.c (.int .i64 2))))]),OP 14 (.build [.int .i32 0,.int .i32 0,.int .i64 0] [(0,(1,(.c (.int .i32 65024)))),(1,(1,(.c (.int .i32 65039)))),(2,(1,(.c (.int .i64 0))))]),OP 15 (.build [.int .i32 0,.int .i32 0,.int .i64 0] [(0,(1,(.c (.int .i32 65072)))),(1,(1,(.c (.int .i32 65135)))),(2,(1,(.c (.int .i64 2))))]),OP 16 (.build [.int .i32 0,.int .i32 0,.int .i64 0] [(0,(1,(.c (.int .i32 65280)))),(1,(1,(.c (.int .i32 65376)))),(2,(1,(.c (.int .i64 2))))]),OP 17 (.build [.int .i32 0,.int .i32 0,.int .i64 0] [(0,(1,(.c (.int .i32 65504)))),(1,(1,(.c (.int .i32 65510)))),(2,(1,(.c (.int .i64 2))))]),OP 18 (.build [.int .i32 0,.int .i32 0,.int .i64 0] [(0,(1,(.c (.int .i32 127744)))),(1,(1,(.c (.int .i32 128591)))),(2,(1,(.c (.int .i64 2))))]),OP 19 (.build [.int .i32 0,.int .i32 0,.int .i64 0] [(0,(1,(.c (.int .i32 129280)))),(1,(1,(.c (.int .i32 129535)))),(2,(1,(.c (.int .i64 2))))]),OP 20 (.build [.int .i32 0,.int .i32 0,.int .i64 0] [(0,(1,(.c (.int .i32 131072)))),(1,(1,(.c (.int .i32 196605)))),(2,(1,(.c (.int .i64 2))))]),OP 21 (.build [.int .i32 0,.int .i32 0,.int .i64 0] [(0,(1,(.c (.int .i32 196608)))),(1,(1,(.c (.int .i32 262141)))),(2,(1,(.c (.int .i64 2))))]),OP 22 (.build [.int .i32 0,.int .i32 0,.int .i64 0] [(0,(1,(.c (.int .i32 1114112)))),(1,(1,(.c (.int .i32 2147483647)))),(2,(1,(.c (.int .i64 0))))]),OP 23 (.build [.int .i32 0,.int .i32 0,.int .i64 0,.int .i32 0,.int .i32 0,.int .i64 0,.int .i32 0,.int .i32 0,.int .i64 0,.int .i32 0,.int .i32 0,.int .i64 0,.int .i32 0,.int .i32 0,.int .i64 0,.int .i32 0,.int .i32 0,.int .i64 0,.int .i32 0,.int .i32 0,.int .i64 0,.int .i32 0,.int .i32 0,.int .i64 0,.int .i32 0,.int .i32 0,.int .i64 0,.int .i32 0,.int .i32 0,.int .i64 0,.int .i32 0,.int .i32 0,.int .i64 0,.int .i32 0,.int .i32 0,.int .i64 0,.int .i32 0,.int .i32 0,.int .i64 0,.int .i32 0,.int .i32 0,.int .i64 0,.int .i32 0,.int .i32 0,.int .i64 0,.int .i32 0,.int .i32 0,.int .i64 0,.int .i32 0,.int .i32 0,.int .i64 0,.int .i32 0,.int .i32 0,.int .i64 0,.int .i32 0,.int .i32 0,.int .i64 0,.int .i32 0,.int .i32 0,.int .i64 0,.int .i32 0,.int .i32 0,.int .i64 0,.int .i32 0,.int .i32 0,.int .i64 0] [(0,(3,(.t 1))),(3,(3,(.t 2))),(6,(3,(.t 3))),(9,(3,(.t 4))),(12,(3,(.t 5))),(15,(3,(.t 6))),(18,(3,(.t 7))),(21,(3,(.t 8))),(24,(3,(.t 9))),(27,(3,(.t 10))),(30,(3,(.t 11))),(33,(3,(.t 12))),(36,(3,(.t 13))),(39,(3,(.t 14))),(42,(3,(.t 15))),(45,(3,(.t 16))),(48,(3,(.t 17))),(51,(3,(.t 18))),(54,(3,(.t 19))),(57,(3,(.t 20))),(60,(3,(.t 21))),(63,(3,(.t 22)))]),SA 66 0 23] [0] .ret)),[.c 0 true 66]⟩
theorem Ej:aK PG.P (aA PG.P 127 rR) 127=some rR:=by kernel_rfl
def bD:List (Int × Int × Int):=[(0,31,0),(127,159,0),(768,879,0),(4352,4447,2),(8203,8207,0),(11904,12350,2),(12353,13311,2),(13312,19903,2),(19968,40959,2),(40960,42191,2),(44032,55203,2),(55296,57343,0),(63744,64255,2),(65024,65039,0),(65072,65135,2),(65280,65376,2),(65504,65510,2),(127744,128591,2),(129280,129535,2),(131072,196605,2),(196608,262141,2),(1114112,2147483647,0)]
def ja:List DV:=bD.flatMap fun p=> [.int .i32 p.1,.int .i32 p.2.1,.int .i64 p.2.2]
theorem Ql (h:∀T',ax T T' []->K (.agg ja) T'):aj PG 127 [] T K:=by
 refine aj.aE FOk.nil Ej (by simp[rR]) ?_
 unfold rR
 dsimp only
 simp -implicitDefEqProofs -dsimp only[ah,vcS,↓vcQ,simprocAttr]
 exact h _ (ax.app _ _ _)
def yZ:RFn:=⟨1,11,(SR [MB 4 false] [0,1,2] (.seq (.cJ (.take (MV 5 0) [] (.take (OP 6 (.iz 22 3 (.t 1) (.t 5))) [] (.take (FA 7 1 6) [] (.take (LD 8 7) [] (.take (LD 9 2) [] (.take (BT 10 .geq 8 9) [] (.take (MV 4 10) [] .done))))))) 0 [4]) .ret)),[.t 4]⟩
theorem JU:aK PG.P (aA PG.P 129 yZ) 129=some yZ:=by kernel_rfl
def QK (p:Int × Int × Int):List DV:=[.int .i32 p.1,.int .i32 p.2.1,.int .i64 p.2.2]
theorem LS:∀(l:List (Int × Int × Int)) (i:Nat) (p:Int × Int × Int),l[i]?=some p->(l.flatMap QK)[i*3]?=some (.int .i32 p.1)/\(l.flatMap QK)[i*3+1]?=some (.int .i32 p.2.1)/\(l.flatMap QK)[i*3+2]?=some (.int .i64 p.2.2)
 | [],i,p,h=>by simp at h
 | x::l,0,p,h=>by simp at h;subst h;simp[QK]
 | x::l,i+1,p,h=>by
  have:=LS l i p (by simpa using h)
  rw[List.flatMap_cons,show (i+1)*3=i*3+3 by omega]
  simpa [QK] using this
theorem zw {p:Int × Int × Int}(h:bD[i]?=some p):ja[i*3]?=some (.int .i32 p.1)/\ja[i*3+1]?=some (.int .i32 p.2.1)/\ja[i*3+2]?=some (.int .i64 p.2.2):=LS bD i p h
theorem aaw (ha:T[a]?=some (some (.box ja)))(hb:T[b]?=some (some (.box [.int .i32 r])))(hi:i<22)
  (h:∀p,bD[i]?=some p->K (.bool (decide (r<=p.2.1))) T):aj PG 129 [.int .i64 i,.ptr a 0 0,.ptr b 0 0] T K:=by
 have hi0:(0:Int)<=i:=by omega
 have hi1:(i:Int)<22:=by omega
 obtain ⟨p,hp⟩:∃p,bD[i]?=some p:=⟨_,List.getElem?_eq_getElem (show i<bD.length from hi)⟩
 have hg:=(zw hp).2.1
 refine aj.aE FOk.nil JU (by simp[yZ]) ?_
 unfold yZ
 dsimp only
 simp -implicitDefEqProofs -dsimp only[ah,ai ha,ai hb,hi0,hi1,hg,vcS,↓vcQ,simprocAttr]
 exact h p hp
def ve:RC:=(.seq (SR [MV 9 5,MV 10 6,BT 11 .lss 9 10] [1,5,6,11] (.cond (.t 11) .skip (.ext 0))) (.blk 1 (SR [MV 12 5,MV 13 6,BT 14 .add 12 13,OP 15 (.conv (.i2i .u64) (.t 14)),OP 16 (.bin .shr (.t 15) (.c (.int .u64 1))),OP 17 (.conv (.i2i .i64) (.t 16)),MV 7 17] [1,5,6,7] (SR [MV 18 1,MV 19 7,OP 20 (.iP (.t 18) [.t 19]),OP 21 (.un .not (.t 20))] [1,5,6,7,21] (.cond (.t 21) (.reg [MV 22 7,BI 23 .add 22 1,MV 5 23] 0 [1,5,6]) (.reg [MV 24 7,MV 6 24] 0 [1,5,6]))))))
def rZ:RFn:=⟨2,26,(SR [OP 4 (.mov (.c (.int .i64 0)))] [0,1] (SR [MV 8 0,OP 5 (.mov (.c (.int .i64 0))),MV 6 8] [1,5,6] (.seq (.blk 0 (.loop ve)) (SR [MV 25 5,MV 4 25] [4] .ret)))),[.t 4]⟩
theorem Et:aK PG.P (aA PG.P 128 rZ) 128=some rZ:=by kernel_rfl
theorem Jd:∀i<22,∀j<22,i<=j->(bD.getD i (0,0,0)).2.1<=(bD.getD j (0,0,0)).2.1:=by decide +kernel
theorem CF {j:Nat}{p q:Int × Int × Int}(h:i<=j)(hp:bD[i]?=some p)(hq:bD[j]?=some q):p.2.1<=q.2.1:=by
 have hi:i<22:=(List.getElem?_eq_some_iff.1 hp).1
 have hj:j<22:=(List.getElem?_eq_some_iff.1 hq).1
 have:=Jd i hi j hj h
 simpa [List.getD_eq_getElem?_getD,hp,hq] using this
theorem wrap_u64 {n:Int}(h0:0<=n)(h1:n<18446744073709551616):IntKind.u64.wrap n=n:=by
 unfold IntKind.wrap
 simp only[show IntKind.u64.bits=64 from rfl,show IntKind.u64.signed=false from rfl]
 simp
 omega
theorem MR (ha:T[a]?=some (some (.box ja)))(hb:T[b]?=some (some (.box [.int .i32 r])))
  (h:∀i:Nat,i<=22->(∀j p,j<i->bD[j]?=some p->p.2.1<r)->(∀j p,i<=j->bD[j]?=some p->r<=p.2.1)->K (.int .i64 i) T):aj PG 128 [.int .i64 22,.wrap (.clo 129) [.ptr a 0 0,.ptr b 0 0]] T K:=by
 refine aj.aE FOk.nil Et (by simp[rZ]) ?_
 unfold rZ
 dsimp only
 simp -implicitDefEqProofs -dsimp only[ah,ai ha,ai hb,vcS,↓vcQ,simprocAttr]
 refine bk.inv FOk.nil (S:=fun s:Nat × Nat=>⟨[(1,.wrap (.clo 129) [.ptr a 0 0,.ptr b 0 0]),(5,.int .i64 s.1),(6,.int .i64 s.2)],T⟩)
  (I:=fun s=>s.1<=s.2/\s.2<=22/\(∀j p,j<s.1->bD[j]?=some p->p.2.1<r)/\(∀j p,s.2<=j->bD[j]?=some p->r<=p.2.1))
  (μ:=fun s=>s.2-s.1) (0,22) ⟨by simp,by simp,fun j p hj=>by omega,fun j p hj hp=>by
   have:j<bD.length:=(List.getElem?_eq_some_iff.1 hp).1
   have e:bD.length=22:=rfl
   dsimp only at hj;omega⟩ ?_ ?_
 ·simp -implicitDefEqProofs -dsimp only[an,vcS,↓vcQ,simprocAttr]
 ·intro ⟨lo,hi⟩ ⟨h1,h2,h3,h4⟩
  dsimp only at h1 h2 h3 h4 ⊢
  unfold ve
  by_cases hc:lo<hi
  ·have hc':(lo:Int)<hi:=by omega
   have hw1:IntKind.i64.wrap ((lo:Int)+hi)=((lo+hi:Nat):Int):=by rw[aO (by omega) (by omega)];omega
   have hm:IntKind.i64.wrap ((IntKind.u64.wrap ((lo+hi:Nat):Int)).fdiv (2 ^ min 1 IntKind.u64.bits))=(((lo+hi) / 2:Nat):Int):=by
    rw[show min 1 IntKind.u64.bits=1 from rfl,wrap_u64 (by omega) (by omega),Int.fdiv_eq_ediv_of_nonneg _ (by decide),aO (by omega) (by omega)]
    omega
   have hmid:(lo+hi) / 2<22:=by omega
   have Ty:fR PG.P 129=true:=by kernel_rfl
   simp -implicitDefEqProofs -dsimp only[hc',hw1,bh,aX,Ty,an,hm,vcS,↓vcQ,simprocAttr]
   refine aaw ha hb hmid fun p hp=>?_
   generalize hmm:(lo+hi) / 2=m at *
   have hwm:IntKind.i64.wrap ((m:Int)+1)=((m+1:Nat):Int):=by rw[aO (by omega) (by omega)];omega
   by_cases hr:r<=p.2.1
   ·have hd:decide (r<=p.2.1)=true:=decide_eq_true hr
    rw[hd]
    simp -implicitDefEqProofs -dsimp only[hc',hw1,hm,hwm,an,vcS,↓vcQ,simprocAttr]
    refine ⟨(lo,m),⟨rfl,rfl⟩,⟨by dsimp only;omega,by dsimp only;omega,h3,fun j q hj hq=>?_⟩,by dsimp only;omega⟩
    exact Int.le_trans hr (CF hj hp hq)
   ·have hd:decide (r<=p.2.1)=false:=decide_eq_false hr
    rw[hd]
    simp -implicitDefEqProofs -dsimp only[hc',hw1,hm,hwm,an,vcS,↓vcQ,simprocAttr]
    refine ⟨(m+1,hi),⟨rfl,rfl⟩,⟨by dsimp only;omega,h2,fun j q hj hq=>?_,h4⟩,by dsimp only;omega⟩
    have:=CF (i:=j) (j:=m) (by dsimp only at hj;omega) hq hp
    omega
  ·have hc':¬(lo:Int)<hi:=by omega
   simp -implicitDefEqProofs -dsimp only[hc',an,vcS,↓vcQ,simprocAttr]
   have:lo=hi:=by omega
   subst this
   exact h lo h2 h3 h4
def Ek:RFn:=⟨1,24,(SR [OP 1 (.box 1 (.t 0)),OP 2 (.mov (.c (.int .i64 0)))] [1] (.seq (SR [LD 5 1,OP 6 (.bin .lss (.t 5) (.c (.int .i32 0)))] [1,6] (.cond (.t 6) (SR [OP 2 (.mov (.c (.int .i64 0)))] [2] .ret) .skip)) (SR [OP 7 (.call 127 []),OP 3 (.alloc [.int .i32 0,.int .i32 0,.int .i64 0,.int .i32 0,.int .i32 0,.int .i64 0,.int .i32 0,.int .i32 0,.int .i64 0,.int .i32 0,.int .i32 0,.int .i64 0,.int .i32 0,.int .i32 0,.int .i64 0,.int .i32 0,.int .i32 0,.int .i64 0,.int .i32 0,.int .i32 0,.int .i64 0,.int .i32 0,.int .i32 0,.int .i64 0,.int .i32 0,.int .i32 0,.int .i64 0,.int .i32 0,.int .i32 0,.int .i64 0,.int .i32 0,.int .i32 0,.int .i64 0,.int .i32 0,.int .i32 0,.int .i64 0,.int .i32 0,.int .i32 0,.int .i64 0,.int .i32 0,.int .i32 0,.int .i64 0,.int .i32 0,.int .i32 0,.int .i64 0,.int .i32 0,.int .i32 0,.int .i64 0,.int .i32 0,.int .i32 0,.int .i64 0,.int .i32 0,.int .i32 0,.int .i64 0,.int .i32 0,.int .i32 0,.int .i64 0,.int .i32 0,.int .i32 0,.int .i64 0,.int .i32 0,.int .i32 0,.int .i64 0,.int .i32 0,.int .i32 0,.int .i64 0]),SA 66 3 7] [1,3] (SR [OP 8 (.xg 129 [.t 3,.t 1]),OP 9 (.call 128 [.c (.int .i64 22),.t 8]),MV 4 9] [1,3,4] (.seq (.seq (.cJ (.take (MV 10 4) [] (.take (BI 11 .lss 10 22) [] (.take (MV 12 11) [] (.take (MG 13 4 12 true) [] (.take (OG 14 (.iz 22 3 (.t 3) (.t 13)) 12 true) [] (.take (FG 15 0 14 12 true) [] (.take (LG 16 15 12 true) [] (.take (LG 17 1 12 true) [] (.take (OG 18 (.bin .leq (.t 16) (.t 17)) 12 true) [] (.take (OP 19 (.pick (.t 12) (.t 18) (.c (.bool false)))) [] .done)))))))))) 0 [3,4,19]) (.cond (.t 19) (SR [MV 20 4,OP 21 (.iz 22 3 (.t 3) (.t 20)),FA 22 2 21,LD 23 22,MV 2 23] [2] .ret) .skip)) (SR [OP 2 (.mov (.c (.int .i64 1)))] [2] .ret)))))),[.t 2]⟩
theorem NS:aK PG.P (aA PG.P 96 Ek) 96=some Ek:=by kernel_rfl
theorem Je (hr:0<=r)(hr2:r<=2147483647)(h1:∀j p,j<i->bD[j]?=some p->p.2.1<r)(h2:∀j p,i<=j->bD[j]?=some p->r<=p.2.1)(hi:i<22) :
  ∃p,bD[i]?=some p/\(dB r:Int)=if p.1<=r then p.2.2 else 1:=by
 have hu:=h2 i _ (Nat.le_refl _) (List.getElem?_eq_getElem (show i<bD.length from hi))
 have hl:∀k,i=k+1->(bD.getD k (0,0,0)).2.1<r:=fun k e=>by
  have:=h1 k _ (by omega) (List.getElem?_eq_getElem (show k<bD.length by show k<22;omega))
  simpa [List.getD_eq_getElem?_getD,List.getElem?_eq_getElem (show k<bD.length by show k<22;omega)] using this
 refine ⟨_,List.getElem?_eq_getElem (show i<bD.length from hi), ?_⟩
 clear h1 h2
 unfold dB vJ inR iN
 simp only[List.any_cons,List.any_nil,Bool.or_false,decide_eq_true_eq,decide_eq_false_iff_not,Bool.or_eq_true]
 match i,hi with
 | 0,_=>simp[bD] at hu ⊢;(repeat' split) <;> omega
 | 1,_=>have:=hl 0 rfl;simp[bD] at hu this ⊢;(repeat' split) <;> omega
 | 2,_=>have:=hl 1 rfl;simp[bD] at hu this ⊢;(repeat' split) <;> omega
 | 3,_=>have:=hl 2 rfl;simp[bD] at hu this ⊢;(repeat' split) <;> omega
 | 4,_=>have:=hl 3 rfl;simp[bD] at hu this ⊢;(repeat' split) <;> omega
 | 5,_=>have:=hl 4 rfl;simp[bD] at hu this ⊢;(repeat' split) <;> omega
 | 6,_=>have:=hl 5 rfl;simp[bD] at hu this ⊢;(repeat' split) <;> omega
 | 7,_=>have:=hl 6 rfl;simp[bD] at hu this ⊢;(repeat' split) <;> omega
 | 8,_=>have:=hl 7 rfl;simp[bD] at hu this ⊢;(repeat' split) <;> omega
 | 9,_=>have:=hl 8 rfl;simp[bD] at hu this ⊢;(repeat' split) <;> omega
 | 10,_=>have:=hl 9 rfl;simp[bD] at hu this ⊢;(repeat' split) <;> omega
 | 11,_=>have:=hl 10 rfl;simp[bD] at hu this ⊢;(repeat' split) <;> omega
 | 12,_=>have:=hl 11 rfl;simp[bD] at hu this ⊢;(repeat' split) <;> omega
 | 13,_=>have:=hl 12 rfl;simp[bD] at hu this ⊢;(repeat' split) <;> omega
 | 14,_=>have:=hl 13 rfl;simp[bD] at hu this ⊢;(repeat' split) <;> omega
 | 15,_=>have:=hl 14 rfl;simp[bD] at hu this ⊢;(repeat' split) <;> omega
 | 16,_=>have:=hl 15 rfl;simp[bD] at hu this ⊢;(repeat' split) <;> omega
 | 17,_=>have:=hl 16 rfl;simp[bD] at hu this ⊢;(repeat' split) <;> omega
 | 18,_=>have:=hl 17 rfl;simp[bD] at hu this ⊢;(repeat' split) <;> omega
 | 19,_=>have:=hl 18 rfl;simp[bD] at hu this ⊢;(repeat' split) <;> omega
 | 20,_=>have:=hl 19 rfl;simp[bD] at hu this ⊢;(repeat' split) <;> omega
 | 21,_=>have:=hl 20 rfl;simp[bD] at hu this ⊢;(repeat' split) <;> omega
 | n+22,h=>omega
theorem FW:ja.length=66:=by decide
theorem FV:ja.all DV.one=true:=by decide
theorem MW (h:r<0):(dB r:Int)=0:=by
 unfold dB vJ
 rw[if_pos (by simp;omega)];rfl
theorem Z4 (hr:-2147483648<=r/\r<=2147483647)(h:∀T',ax T T' []->K (.int .i64 (dB r)) T'):aj PG 96 [.int .i32 r] T K:=by
 refine aj.aE FOk.nil NS (by simp[Ek]) ?_
 unfold Ek
 dsimp only
 by_cases h0:r<0
 ·simp -implicitDefEqProofs -dsimp only[ah,h0,vcS,↓vcQ,simprocAttr]
  rw[<-MW h0]
  exact h _ (ax.app _ _ _)
 ·simp -implicitDefEqProofs -dsimp only[ah,h0,vcS,↓vcQ,simprocAttr]
  refine Ql fun T' k=>?_
  simp -implicitDefEqProofs -dsimp only[ah,h0,FW,FV,vcS,↓vcQ,simprocAttr]
  have hb:=k.at (aZ T [] (some (Ob.box [.int .i32 r]))) (by simp)
  have ha:=aZ T' [] (some (Ob.box ja))
  have kT:ax T (T'++ [some (Ob.box ja)]) []:=(((ax.app T _ []).new k (by simp))).dU _
  refine MR (r:=r) ha (hO hb _) fun i hi h1 h2=>?_
  by_cases hi2:i<22
  ·obtain ⟨p,hp,hw⟩:=Je (by omega) hr.2 h1 h2 hi2
   have hg:=zw hp
   have hi3:(i:Int)<22:=by omega
   have hi0:(0:Int)<=i:=by omega
   by_cases hlo:p.1<=r
   ·rw[if_pos hlo] at hw
    simp -implicitDefEqProofs -dsimp only[ah,hi3,hi0,hg.1,hg.2.1,hg.2.2,ai ha,ai (hO hb [some (Ob.box ja)]),hlo,vcS,↓vcQ,simprocAttr]
    rw[<-hw]
    exact ⟨by have:=kT.1;simp at this;omega,h _ kT⟩
   ·rw[if_neg hlo] at hw
    simp -implicitDefEqProofs -dsimp only[ah,hi3,hi0,hg.1,hg.2.1,hg.2.2,ai ha,ai (hO hb [some (Ob.box ja)]),hlo,vcS,↓vcQ,simprocAttr]
    rw[<-hw]
    exact ⟨by have:=kT.1;simp at this;omega,h _ kT⟩
  ·have hl:=h1 21 (1114112,2147483647,0) (by omega) rfl
   dsimp only at hl
   omega
end
end Go.Proofs.YtjmnbpilnneonaaGreatDoor
