/- Texts G3, G4, G5, G6, G7, G8, H1 in one. -/
import Derived.Test.YtjmnbpilnneonaaGreatDoorN1
set_option linter.unusedVariables false
set_option linter.unusedSimpArgs false
set_option maxRecDepth 10000
namespace Go.Proofs.YtjmnbpilnneonaaGreatDoor
open Go.RowKit
noncomputable def uw:RC:=(SR [BT 6 .lss 5 4] [0,4,5,6] (.seq (.cond (.t 6) .skip (.ext 0)) (.seq (.blk 1 (SR [MV 7 5,MV 2 7] [0,2,4,5] (SR [MV 8 0,MV 9 2,OP 10 (.aT 3 (.t 8) (.t 9)),FA 11 2 10,LD 12 11] [0,2,4,5,12] (.blk 2 (SR [OP 14 (.bin .eql (.t 12) (.c (.int .u8 1))),MV 13 14] [0,2,4,5,12,13] (.cond (.t 13) (SR [MV 15 2,BI 16 .add 15 1,MV 17 0,OP 18 (.len (.t 17)),BT 19 .eql 16 18,MV 20 19,MG 21 0 20 false,MG 22 2 20 false,OG 23 (.bin .add (.t 22) (.c (.int .i64 1))) 20 false,OG 24 (.aT 3 (.t 21) (.t 23)) 20 false,FG 25 2 24 20 false,LG 26 25 20 false,OG 27 (.bin .neq (.t 26) (.c (.int .u8 2))) 20 false,OP 28 (.pick (.t 20) (.c (.bool true)) (.t 27))] [0,2,4,5,28] (.cond (.t 28) (.reg [MV 29 0,MV 30 2,OP 31 (.call 82 []),OP 32 (.aT 3 (.t 29) (.t 30)),SA 3 32 31] 0 [0,4,5]) .skip)) (SR [OP 34 (.bin .eql (.t 12) (.c (.int .u8 2))),MV 33 34] [0,2,4,5,33] (.cond (.t 33) (SR [MV 35 2,BI 36 .eql 35 0,MV 37 36,MG 38 0 37 false,MG 39 2 37 false,OG 40 (.bin .sub (.t 39) (.c (.int .i64 1))) 37 false,OG 41 (.aT 3 (.t 38) (.t 40)) 37 false,FG 42 2 41 37 false,LG 43 42 37 false,OG 44 (.bin .neq (.t 43) (.c (.int .u8 1))) 37 false,OP 45 (.pick (.t 37) (.c (.bool true)) (.t 44))] [0,2,4,5,45] (.cond (.t 45) (.reg [MV 46 0,MV 47 2,OP 48 (.call 82 []),OP 49 (.aT 3 (.t 46) (.t 47)),SA 3 49 48] 0 [0,4,5]) .skip)) .skip)))))))) (.reg [BI 50 .add 5 1,MV 5 50] 0 [0,4,5]))))
noncomputable def wL:RFn:=⟨1,51,(SR [MV 3 0,OP 4 (.len (.t 3)),OP 5 (.mov (.c (.int .i64 0)))] [0,4,5] (.blk 0 (.loop uw))),[]⟩
theorem Hj:aK PG.P [⟨0,0,[0,4,5],[]⟩,⟨1,0,[0,4,5,6],[]⟩,⟨2,0,[0,2,4,5],[]⟩,⟨3,0,[0,2,4,5,12],[]⟩,⟨4,0,[0,2,4,5,12,13],[]⟩,⟨5,0,[0,2,4,5,28],[]⟩,⟨6,0,[0,4,5],[]⟩,⟨7,0,[0,2,4,5,33],[]⟩,⟨8,0,[0,2,4,5,45],[]⟩,⟨9,0,[0,4,5],[]⟩,⟨10,0,[0,4,5],[]⟩] 48=some wL:=by kernel_rfl
theorem BH {T:aj}{rows aa:Nat}{K:DV→aj→Prop}(h1:1≤rows∧rows≤1000)(h2:1≤aa∧aa≤1000)
  (h:∀T' p,T.length≤p→T'[p]?=some (some (.arr 3 (av (List.replicate (rows*aa) aN))))→aA T T' []→K (.own p 0 (rows*aa)) T'):aq PG 38 [.int .i64 rows,.int .i64 aa] T K:=by
 have hm:rows*aa≤1000*1000:=Nat.mul_le_mul h1.2 h2.2
 have b1:jG rows=true:=O0 (by omega)
 have b2:jG aa=true:=O0 (by omega)
 have hp:(rows:Int)*aa=((rows*aa:Nat):Int):=by simp
 have hw:IntKind.i64.wrap ((rows:Int)*aa)=((rows*aa:Nat):Int):=by rw [hp];exact aP (by omega) (by omega)
 obtain ⟨m,em⟩:∃m,m=rows*aa:=⟨_,rfl⟩
 rw [←em] at hw h hm
 have z0:(0:Int)≤(m:Int):=by omega
 have z1:(m:Int)*8≤140737488355328∧(m:Int)≤4611686018427387904:=by omega
 refine aq.aE tK Hs (by simp [wO]) ?_
 unfold wO
 dsimp only
 simp -implicitDefEqProofs -dsimp only [gJ,dI,b1,b2,hw,z0,z1,Int.le_refl,ah,vcS,↓an,↓ak,simprocAttr]
 have e0:List.replicate m [DV.int IntKind.i32 0,DV.int IntKind.u16 0,DV.int IntKind.u8 0]=av (List.replicate m ⟨0,0,0⟩):=B7 m ⟨0,0,0⟩
 rw [e0]
 refine xu (L:=List.replicate m ⟨0,0,0⟩) (n:=m) (bq _ _ _) (by simp) (by simp;omega) fun T2 h2 k2=>?_
 have e1:ct (List.replicate m ⟨0,0,0⟩) 0 (0+m) (List.replicate m aN)=List.replicate m aN:=by simp [ct]
 rw [e1] at h2
 simp -implicitDefEqProofs -dsimp only [gJ,dI,vcS,↓an,↓ak,simprocAttr]
 exact ⟨by have:=k2.1;simp at this;omega,h T2 _ (Nat.le_refl _) h2 ((aA.app T _ []).new k2 (by simp))⟩
def nk (L:List Ce)(off n i:Nat):List Ce:=ct L off (off+n) (lC ((L.drop off).take n) i)
theorem kz {L:List Ce}{off n i:Nat}(ho:off+n≤L.length):(nk L off n i).length=L.length:=bL (by omega) ho (by rw [kj];simp;omega)
theorem lP {L:List Ce}{off n i j:Nat}(ho:off+n≤L.length)(hj:j<n):(nk L off n i).getD (off+j) aN=if j<i then dF ((L.drop off).take n) j else ((L.drop off).take n).getD j aN:=by
 unfold nk
 rw [cr (by omega) ho (by rw [kj];simp;omega),if_neg (by omega),if_pos (by omega)]
 have e:off+j-off=j:=by omega
 rw [e,Gl (by simp;omega)]
theorem Jf {L:List Ce}{off n i:Nat}(ho:off+n≤L.length)(hi:i<n):(nk L off n i).set (off+i) (dF ((L.drop off).take n) i)=nk L off n (i+1):=by
 refine dH (by rw [List.length_set,kz ho,kz ho]) fun j hj=>?_
 rw [List.length_set,kz ho] at hj
 rw [lR (by rw [kz ho];omega)]
 by_cases hin:off≤j∧j<off+n
 ·obtain ⟨t,rfl⟩:∃t,j=off+t:=⟨j-off,by omega⟩
  rw [lP ho (by omega),lP ho (by omega)]
  by_cases e:t=i
  ·subst e;rw [if_pos rfl,if_pos (by omega)]
  ·rw [if_neg (by omega)]
   by_cases h:t<i
   ·rw [if_pos h,if_pos (by omega)]
   ·rw [if_neg h,if_neg (by omega)]
 ·rw [if_neg (by omega)]
  unfold nk
  rw [cr (by omega) ho (by rw [kj];simp;omega),cr (by omega) ho (by rw [kj];simp;omega)]
  by_cases h:j<off
  ·rw [if_pos h,if_pos h]
  ·rw [if_neg h,if_neg h,if_neg (by omega),if_neg (by omega)]
theorem RZ {L:List Ce}{off n i:Nat}(ho:off+n≤L.length)(hi:i<n)(h:dF ((L.drop off).take n) i=((L.drop off).take n).getD i aN):nk L off n i=nk L off n (i+1):=by
 rw [←Jf ho hi,h]
 refine dH (by rw [List.length_set]) fun j hj=>?_
 rw [lR (by rw [kz ho];omega)]
 by_cases e:j=off+i
 ·subst e;rw [if_pos rfl,lP ho hi,if_neg (by omega)]
 ·rw [if_neg e]
theorem qE {T:aj}{q off n:Nat}{L:List Ce}{K:DV→aj→Prop}(hq:T[q]?=some (some (.arr 3 (av L))))(ho:off+n≤L.length)(hl:L.length≤1000000)
  (h:∀T',T'[q]?=some (some (.arr 3 (av (ct L off (off+n) (fe ((L.drop off).take n))))))→aA T T' [q]→K (.tup []) T'):aq PG 48 [.own q off n] T K:=by
 refine aq.aE FOk.nil Hj (by simp [wL]) ?_
 unfold wL
 dsimp only
 simp -implicitDefEqProofs -dsimp only [ah,ai hq,vcS,↓an,↓ak,simprocAttr]
 have r0:nk L off n 0=L:=by
  refine dH (kz ho) fun j hj=>?_
  rw [kz ho] at hj
  unfold nk
  rw [cr (by omega) ho (by rw [kj];simp;omega),RD,dX,dJ]
  by_cases h1:j<off
  ·rw [if_pos h1]
  ·rw [if_neg h1]
   by_cases h2:j<off+n
   ·rw [if_pos h2,if_pos (by omega)];congr 1;omega
   ·rw [if_neg h2]
 have rn:nk L off n n=ct L off (off+n) (fe ((L.drop off).take n)):=by
  have hlen:((L.drop off).take n).length=n:=by simp;omega
  have:=It ((L.drop off).take n)
  rw [hlen] at this
  unfold nk
  rw [this]
 rw [←rn] at h
 obtain ⟨R,eR⟩:∃R,R=(L.drop off).take n:=⟨_,rfl⟩
 have hRl:R.length=n:=by rw [eR];simp;omega
 refine bp.inv FOk.nil (S:=fun s:Nat × aj=>⟨[(0,.own q off n),(4,.int .i64 n),(5,.int .i64 s.1)],s.2⟩)
  (I:=fun s=>s.1≤n∧s.2[q]?=some (some (.arr 3 (av (nk L off n s.1))))∧aA T s.2 [q])
  (μ:=fun s=>n-s.1) (0,T) ⟨by simp,by rw [r0];exact hq,aA.refl _ _⟩ ?_ ?_
 ·simp -implicitDefEqProofs -dsimp only [ax,vcS,↓an,↓ak,simprocAttr]
 ·intro ⟨i,A⟩ ⟨h1,h2,h3⟩
  dsimp only at h1 h2 h3 ⊢
  unfold uw
  by_cases hi:i<n
  ·have hii:(i:Int)<n:=by omega
   have hi0:(0:Int)≤(i:Int):=by omega
   have hw1:IntKind.i64.wrap ((i:Int)+1)=((i+1:Nat):Int):=by rw [aP (by omega) (by omega)];omega
   have hlen:=kz (i:=i) ho
   have hP:∀j,j<n→off+j<(nk L off n i).length:=fun j hj=>by rw [hlen];omega
   have g0:=bw (hP i hi)
   rw [lP ho hi,if_neg (by omega),←eR] at g0
   have same:∀{A':aj},A'[q]?=some (some (.arr 3 (av (nk L off n i))))→aA T A' [q]→dF R i=R.getD i aN→
     ∃s':Nat × aj,(((i+1:Nat):Int)=(s'.1:Int)∧ff A' s'.2)∧(s'.1≤n∧s'.2[q]?=some (some (.arr 3 (av (nk L off n s'.1))))∧aA T s'.2 [q])∧n-s'.1<n-i:=fun a b c=>
    ⟨(i+1,_),⟨rfl,aJ _⟩,⟨hi,by rw [←RZ ho hi (by rw [←eR];exact c)];exact a,b⟩,by dsimp only;omega⟩
   have hb:aN.row=[.int .i32 32,.int .u16 0,.int .u8 0]:=rfl
   have cv:dF R i=aN→(av (nk L off n i)).set (off+i) [.int .i32 32,.int .u16 0,.int .u8 0]=av (nk L off n (i+1)):=fun e=>by
    rw [←Jf ho hi,←eR,e]
    exact bP _ _ aN
   have chg:∀{A':aj},aA A A' []→∃s':Nat × aj,(((i+1:Nat):Int)=(s'.1:Int)∧ff (A'.set q (some (.arr 3 (av (nk L off n (i+1)))))) s'.2)∧(s'.1≤n∧s'.2[q]?=some (some (.arr 3 (av (nk L off n s'.1))))∧aA T s'.2 [q])∧n-s'.1<n-i:=fun k=>
    ⟨(i+1,_),⟨rfl,aJ _⟩,⟨hi,bX (k.at h2 (by simp)) _,(h3.trans k (k:=[q]) (by simp) (by simp)).trans (aA.set _ q _) (by simp) (by simp)⟩,by dsimp only;omega⟩
   by_cases c1:(R.getD i aN).h=1
   ·by_cases hn:i+1=n
    ·have hn':((i+1:Nat):Int)=n:=by omega
     have hwc:dF R i=aN:=by unfold dF;rw [if_pos (.inl ⟨c1,.inl (by omega)⟩)]
     simp -implicitDefEqProofs -dsimp only [ai h2,hii,hi0,hw1,g0,c1,eq_true hn',ax,Nat.zero_add,ah,vcS,↓an,↓ak,simprocAttr]
     refine pV fun T' k=>?_
     rw [hb]
     simp -implicitDefEqProofs -dsimp only [ai (k.at h2 (by simp)),hii,hi0,hw1,g0,cv hwc,ax,Nat.zero_add,ah,vcS,↓an,↓ak,simprocAttr]
     exact chg k
    ·have hn':¬((i+1:Nat):Int)=n:=by omega
     have hn1:((i+1:Nat):Int)<n:=by omega
     have hn0:(0:Int)≤((i+1:Nat):Int):=by omega
     have g1:=bw (hP (i+1) (by omega))
     rw [lP ho (by omega),if_neg (by omega),←eR] at g1
     by_cases d:(R.getD (i+1) aN).h=2
     ·have hwc:dF R i=R.getD i aN:=by
       unfold dF
       rw [if_neg]
       intro hc
       rcases hc with ⟨_,h5 | h5⟩ | ⟨h5,_⟩
       ·omega
       ·exact h5 d
       ·unfold hAt at h5;omega
      simp -implicitDefEqProofs -dsimp only [ai h2,hii,hi0,hw1,g0,g1,c1,d,eq_false hn',hn1,hn0,ax,Nat.zero_add,ah,vcS,↓an,↓ak,simprocAttr]
      exact same h2 h3 hwc
     ·have hwc:dF R i=aN:=by unfold dF;rw [if_pos (.inl ⟨c1,.inr d⟩)]
      simp -implicitDefEqProofs -dsimp only [ai h2,hii,hi0,hw1,g0,g1,c1,d,eq_false hn',hn1,hn0,ax,Nat.zero_add,ah,vcS,↓an,↓ak,simprocAttr]
      refine pV fun T' k=>?_
      rw [hb]
      simp -implicitDefEqProofs -dsimp only [ai (k.at h2 (by simp)),hii,hi0,hw1,g0,cv hwc,ax,Nat.zero_add,ah,vcS,↓an,↓ak,simprocAttr]
      exact chg k
   ·by_cases c2:(R.getD i aN).h=2
    ·by_cases hn:i=0
     ·have hn':(i:Int)=0:=by omega
      have hwc:dF R i=aN:=by unfold dF;rw [if_pos (.inr ⟨c2,.inl hn⟩)]
      simp -implicitDefEqProofs -dsimp only [ai h2,hii,hi0,hw1,g0,c2,eq_true hn',ax,Nat.zero_add,ah,vcS,↓an,↓ak,simprocAttr]
      refine pV fun T' k=>?_
      rw [hb]
      simp -implicitDefEqProofs -dsimp only [ai (k.at h2 (by simp)),hii,hi0,hw1,g0,cv hwc,ax,Nat.zero_add,ah,vcS,↓an,↓ak,simprocAttr]
      exact chg k
     ·have hn':¬(i:Int)=0:=by omega
      have hw2:IntKind.i64.wrap ((i:Int)-1)=((i-1:Nat):Int):=by rw [aP (by omega) (by omega)];omega
      have hn1:((i-1:Nat):Int)<n:=by omega
      have hn0:(0:Int)≤((i-1:Nat):Int):=by omega
      have g1:=bw (hP (i-1) (by omega))
      rw [lP ho (by omega),if_pos (by omega),←eR] at g1
      have hwl:=My (L:=R) (i:=i-1) (by omega) (by have:i-1+1=i:=(by omega);rw [this];exact c2)
      by_cases d:(dF R (i-1)).h=1
      ·have hwc:dF R i=R.getD i aN:=by
        unfold dF
        rw [if_neg]
        intro hc
        rcases hc with ⟨h5,_⟩ | ⟨_,h5 | h5⟩
        ·exact c1 h5
        ·omega
        ·exact h5 (hwl.1 d)
       simp -implicitDefEqProofs -dsimp only [ai h2,hii,hi0,hw1,hw2,g0,g1,c2,d,eq_false hn',hn1,hn0,ax,Nat.zero_add,ah,vcS,↓an,↓ak,simprocAttr]
       exact same h2 h3 hwc
      ·have hwc:dF R i=aN:=by unfold dF;rw [if_pos (.inr ⟨c2,.inr fun h5=>d (hwl.2 h5)⟩)]
       simp -implicitDefEqProofs -dsimp only [ai h2,hii,hi0,hw1,hw2,g0,g1,c2,d,eq_false hn',hn1,hn0,ax,Nat.zero_add,ah,vcS,↓an,↓ak,simprocAttr]
       refine pV fun T' k=>?_
       rw [hb]
       simp -implicitDefEqProofs -dsimp only [ai (k.at h2 (by simp)),hii,hi0,hw1,g0,cv hwc,ax,Nat.zero_add,ah,vcS,↓an,↓ak,simprocAttr]
       exact chg k
    ·simp -implicitDefEqProofs -dsimp only [ai h2,hii,hi0,hw1,g0,c1,c2,ax,Nat.zero_add,ah,vcS,↓an,↓ak,simprocAttr]
     refine same h2 h3 ?_
     unfold dF hAt
     rw [if_neg (by omega)]
  ·have hii:¬(i:Int)<n:=by omega
   simp -implicitDefEqProofs -dsimp only [ai h2,hii,ax,vcS,↓an,↓ak,simprocAttr]
   obtain rfl:i=n:=by omega
   exact ⟨h3.1,h _ h2 h3⟩
noncomputable def Ho:RFn:=⟨5,52,(SR [OP 10 (.mov (.c (.sl 0 [] .nil)))] [0,1,2,3,4] (SR [MV 15 0,OP 16 (.call 43 [.t 15]),MV 11 16] [1,2,3,4,11] (.seq (SR [MV 17 11,MV 18 1,MV 19 2,OP 20 (.call 44 [.t 17,.t 18,.t 19]),MV 12 20] [1,3,4,11,12] (SR [MV 21 12,OP 22 (.jw true (.t 21) (.c (.sl 0 [] .nil))),MV 23 22,MG 24 3 23 true,OG 25 (.bin .geq (.t 24) (.c (.int .i64 0))) 23 true,OP 26 (.pick (.t 23) (.t 25) (.c (.bool false))),MV 27 26,MG 28 3 27 true,MG 29 1 27 true,OG 30 (.bin .leq (.t 28) (.t 29)) 27 true,OP 31 (.pick (.t 27) (.t 30) (.c (.bool false)))] [3,4,11,12,31] (.cond (.t 31) (SR [MV 32 12,MV 33 3,OP 34 (.slice 3 (.t 32) (some (.t 33)) none none),MV 13 34] [4,11,12,13] (SR [MV 35 4,OP 36 (.call 132 [.t 35]),MV 37 13,OP 38 (.len (.t 37)),OP 39 (.mm false (.t 36) (.t 38)),MV 14 39] [11,12,13,14] (SR [MV 40 13,MV 41 14,OP 42 (.slice 3 (.t 40) (some (.t 41)) none none),MV 43 13,OP 44 (.copy 3 (.t 42) (.t 43))] [11,12,13,14] (SR [MV 45 13,MV 46 14,OP 47 (.slice 3 (.t 45) none (some (.t 46)) none),OP 48 (.call 77 [.t 47])] [11,12] (.reg [MV 49 12,OP 50 (.call 48 [.t 49])] 0 [11]))))) .skip))) (SR [MV 51 11,MV 10 51] [10] .ret)))),[.t 10]⟩
theorem Ni:aK PG.P [⟨0,0,[0,1,2,3,4],[]⟩,⟨1,0,[1,2,3,4,11],[]⟩,⟨2,0,[1,3,4,11,12],[]⟩,⟨3,0,[3,4,11,12,31],[]⟩,⟨4,0,[4,11,12,13],[]⟩,⟨5,0,[11,12,13,14],[]⟩,⟨6,0,[11,12,13,14],[]⟩,⟨7,0,[11,12],[]⟩,⟨8,0,[11],[]⟩,⟨9,0,[10],[]⟩] 103=some Ho:=by kernel_rfl
noncomputable def Hq:RFn:=⟨5,55,(SR [OP 10 (.mov (.c (.sl 0 [] .nil)))] [0,1,2,3,4] (SR [MV 15 0,OP 16 (.call 43 [.t 15]),MV 11 16] [1,2,3,4,11] (.seq (SR [MV 17 11,MV 18 1,MV 19 2,OP 20 (.call 44 [.t 17,.t 18,.t 19]),MV 12 20] [1,3,4,11,12] (SR [MV 21 12,OP 22 (.jw true (.t 21) (.c (.sl 0 [] .nil))),MV 23 22,MG 24 3 23 true,OG 25 (.bin .geq (.t 24) (.c (.int .i64 0))) 23 true,OP 26 (.pick (.t 23) (.t 25) (.c (.bool false))),MV 27 26,MG 28 3 27 true,MG 29 1 27 true,OG 30 (.bin .leq (.t 28) (.t 29)) 27 true,OP 31 (.pick (.t 27) (.t 30) (.c (.bool false)))] [3,4,11,12,31] (.cond (.t 31) (SR [MV 32 12,MV 33 3,OP 34 (.slice 3 (.t 32) (some (.t 33)) none none),MV 13 34] [4,11,12,13] (SR [MV 35 4,OP 36 (.call 132 [.t 35]),MV 37 13,OP 38 (.len (.t 37)),OP 39 (.mm false (.t 36) (.t 38)),MV 14 39] [11,12,13,14] (SR [MV 40 13,MV 41 13,MV 42 14,OP 43 (.slice 3 (.t 41) (some (.t 42)) none none),OP 44 (.copy 3 (.t 40) (.t 43))] [11,12,13,14] (SR [MV 45 13,MV 46 13,OP 47 (.len (.t 46)),MV 48 14,BT 49 .sub 47 48,OP 50 (.slice 3 (.t 45) (some (.t 49)) none none),OP 51 (.call 77 [.t 50])] [11,12] (.reg [MV 52 12,OP 53 (.call 48 [.t 52])] 0 [11]))))) .skip))) (SR [MV 54 11,MV 10 54] [10] .ret)))),[.t 10]⟩
theorem Nk:aK PG.P [⟨0,0,[0,1,2,3,4],[]⟩,⟨1,0,[1,2,3,4,11],[]⟩,⟨2,0,[1,3,4,11,12],[]⟩,⟨3,0,[3,4,11,12,31],[]⟩,⟨4,0,[4,11,12,13],[]⟩,⟨5,0,[11,12,13,14],[]⟩,⟨6,0,[11,12,13,14],[]⟩,⟨7,0,[11,12],[]⟩,⟨8,0,[11],[]⟩,⟨9,0,[10],[]⟩] 104=some Hq:=by kernel_rfl
noncomputable def Hp:RFn:=⟨5,39,(SR [OP 10 (.mov (.c (.sl 0 [] .nil)))] [0,1,2,3,4] (SR [MV 13 0,OP 14 (.call 43 [.t 13]),MV 11 14] [1,2,3,4,11] (.seq (SR [MV 15 11,MV 16 1,MV 17 2,OP 18 (.call 44 [.t 15,.t 16,.t 17]),MV 12 18] [1,3,4,11,12] (SR [MV 19 12,OP 20 (.jw true (.t 19) (.c (.sl 0 [] .nil)))] [1,3,4,11,12,20] (.cond (.t 20) (SR [MV 21 3,OP 22 (.mm true (.t 21) (.c (.int .i64 0))),MV 23 1,OP 24 (.mm false (.t 22) (.t 23)),MV 25 4,OP 26 (.mm true (.t 25) (.c (.int .i64 0))),MV 27 1,OP 28 (.mm false (.t 26) (.t 27)),MV 3 24,MV 4 28] [3,4,11,12] (SR [MV 29 12,MV 30 3,MV 31 3,MV 32 4,OP 33 (.mm true (.t 31) (.t 32)),OP 34 (.slice 3 (.t 29) (some (.t 30)) (some (.t 33)) none),OP 35 (.call 77 [.t 34])] [11,12] (.reg [MV 36 12,OP 37 (.call 48 [.t 36])] 0 [11]))) .skip))) (SR [MV 38 11,MV 10 38] [10] .ret)))),[.t 10]⟩
theorem Nj:aK PG.P [⟨0,0,[0,1,2,3,4],[]⟩,⟨1,0,[1,2,3,4,11],[]⟩,⟨2,0,[1,3,4,11,12],[]⟩,⟨3,0,[1,3,4,11,12,20],[]⟩,⟨4,0,[3,4,11,12],[]⟩,⟨5,0,[11,12],[]⟩,⟨6,0,[11],[]⟩,⟨7,0,[10],[]⟩] 105=some Hp:=by kernel_rfl
theorem gk (args:List DV):tab TG3 44 args=none:=au _
theorem gj (args:List DV):tab TG3 48 args=none:=au _
theorem Bk {L M X:List Ce}{o a b e:Nat}(h1:o≤a)(h2:a≤b)(h3:b≤e)(h4:e≤L.length)(hM:M.length=b-a)(hX:X.length=e-o):ct (ct L a b M) o e X=ct L o e X:=by
 have l1:(ct L a b M).length=L.length:=bL h2 (by omega) hM
 refine dH (by rw [bL (by omega) (by omega) hX,bL (by omega) h4 hX,l1]) fun i hi=>?_
 rw [cr (by omega) (by omega) hX,cr (by omega) h4 hX,cr h2 (by omega) hM]
 by_cases c1:i<o
 ·rw [if_pos c1,if_pos c1,if_pos (by omega)]
 ·rw [if_neg c1,if_neg c1]
  by_cases c2:i<e
  ·rw [if_pos c2,if_pos c2]
  ·rw [if_neg c2,if_neg c2,if_neg (by omega),if_neg (by omega)]
theorem Bj {L M:List Ce}{o a b e:Nat}(h1:o≤a)(h2:a≤b)(h3:b≤e)(h4:e≤L.length)(hM:M.length=b-a):((ct L a b M).drop o).take (e-o)=ct ((L.drop o).take (e-o)) (a-o) (b-o) M:=by
 have l1:(ct L a b M).length=L.length:=bL h2 (by omega) hM
 have l2:((L.drop o).take (e-o)).length=e-o:=by simp;omega
 refine dH (by rw [bL (by omega) (by omega) (by omega),l2];simp;omega) fun i hi=>?_
 have hi':i<e-o:=by rw [List.length_take] at hi;omega
 rw [dX,if_pos hi',dJ,cr h2 (by omega) hM,cr (by omega) (by omega) (by omega),dX,if_pos hi',dJ]
 by_cases c1:o+i<a
 ·rw [if_pos c1,if_pos (show i<a-o by omega)]
 ·rw [if_neg c1,if_neg (show ¬i<a-o by omega)]
  by_cases c2:o+i<b
  ·rw [if_pos c2,if_pos (show i<b-o by omega)];congr 1;omega
  ·rw [if_neg c2,if_neg (show ¬i<b-o by omega)]
theorem aax {T:aj}{q rows aa y x:Nat}{n:Int}{L:List Ce}{K:DV→aj→Prop}(hq:T[q]?=some (some (.arr 3 (av L))))(g:bW L rows aa)(hy:y<rows)(hx:x≤aa)
  (h:∀T' p,T.length≤p→T'[p]?=some (some (.arr 3 (av (Dv L aa y x n))))→aA T T' []→K (.own p 0 L.length) T'):aq PG 103 [.own q 0 L.length,.int .i64 aa,.int .i64 y,.int .i64 x,.int .i64 n] T K:=by
 have h1:=g.r
 have h2:=g.c
 have hl:=g.lim
 have hrow:=dc (aa:=aa) hy
 have pU:=bB y aa
 have hgl:=g.len
 have hn:br n≤1000:=by unfold br;omega
 refine aq.aE tK Ni (by simp [Ho]) ?_
 unfold Ho
 dsimp only
 simp -implicitDefEqProofs -dsimp only [gJ,eA,gk,gj,dI,ai hq,vcS,↓an,↓ak,simprocAttr]
 refine pY hq (by omega) hl.2 hl.1 fun T' p hp hA kp=>?_
 simp only [List.drop_zero,List.take_length] at hA
 simp -implicitDefEqProofs -dsimp only [gJ,eA,gk,gj,dI,ai hA,vcS,↓an,↓ak,simprocAttr]
 refine xj hA g hy ?_
 obtain ⟨o,eo⟩:∃o,o=y*aa:=⟨_,rfl⟩
 unfold Dv kD cM at h
 rw [←eo] at h ⊢
 obtain ⟨a,ea⟩:∃a,a=o+x:=⟨_,rfl⟩
 obtain ⟨m,em⟩:∃m,m=aa-x:=⟨_,rfl⟩
 obtain ⟨k,ek⟩:∃k,k=min (br n) m:=⟨_,rfl⟩
 have hmin:min ((br n:Nat):Int) ((m:Nat):Int)=(k:Int):=by omega
 have x0:(0:Int)≤(x:Int):=by omega
 have x1:(x:Int)≤aa:=by omega
 have c0:0<aa:=by omega
 have k0:(0:Int)≤(k:Int):=by omega
 have k1:k≤m:=by omega
 have al:a+m≤L.length:=by omega
 have ol:o+aa≤L.length:=by omega
 have hM:((L.drop a).take m).length=m:=by simp;omega
 have hmm:min m (m-k)=m-k:=by omega
 have htk:(List.take (m-k) (List.take m (L.drop a)))=List.take (m-k) (L.drop a):=by rw [List.take_take,Nat.min_eq_left (by omega)]
 have hcp:av (List.take (a+k) L)++(av (List.take (m-k) (List.drop a L))++av (List.drop (a+(k+(m-k))) L))=av (ct L (a+k) (a+k+(m-k)) ((L.drop a).take (m-k))):=by rw [hY,hY];simp [ct,Nat.add_assoc]
 have z3:a+(k+(m-k))≤L.length:=by omega
 simp -implicitDefEqProofs -dsimp only [gJ,eA,gk,gj,dI,ai hA,←ea,←em,hmin,x0,x1,hx,c0,k0,k1,al,ol,z3,aH,jf,je,hM,hmm,htk,hcp,vcS,↓an,↓ak,simprocAttr]
 have hbm:a+m-a=m:=by omega
 have m1:((L.drop a).take (m-k)).length=a+k+(m-k)-(a+k):=by simp;omega
 have l1:(ct L (a+k) (a+k+(m-k)) ((L.drop a).take (m-k))).length=L.length:=bL (by omega) (by omega) m1
 have hz:a+(k+(m-k))=a+k+(m-k):=(Nat.add_assoc _ _ _).symm
 refine ⟨Nat.zero_le _, ?_⟩
 refine xu (L:=ct L (a+k) (a+(k+(m-k))) ((L.drop a).take (m-k))) (n:=k) (bX hA _) (by rw [hz,l1];omega) (by rw [hz,l1];omega) fun T2 h2 k2=>?_
 have hd:=Zo (L:=L) (a:=a) (b:=a+m) (k:=k) (k0:=br n) (by omega) al (by rw [hbm];exact ek)
 rw [hbm] at hd
 rw [hz,hd] at h2
 have m2:(oc (br n) ((L.drop a).take m)).length=a+m-a:=by rw [ko,hM];omega
 have l2:(ct L a (a+m) (oc (br n) ((L.drop a).take m))).length=L.length:=bL (by omega) al m2
 simp -implicitDefEqProofs -dsimp only [gJ,eA,gk,gj,dI,vcS,↓an,↓ak,simprocAttr]
 refine qE h2 (by rw [l2];exact ol) (by rw [l2];exact hl.1) fun T3 h3 k3=>?_
 simp -implicitDefEqProofs -dsimp only [gJ,eA,gk,gj,dI,vcS,↓an,↓ak,simprocAttr]
 have hoc:o+aa-o=aa:=by omega
 have hp2:=Bj (L:=L) (M:=oc (br n) ((L.drop a).take m)) (o:=o) (a:=a) (b:=a+m) (e:=o+aa) (by omega) (by omega) (by omega) ol m2
 rw [hoc] at hp2
 rw [hp2,Bk (by omega) (by omega) (by omega) ol m2 (by rw [bO,bL (by omega) (by simp;omega) (by rw [m2];omega)];simp;omega)] at h3
 have eL:ct ((L.drop o).take aa) (a-o) (a+m-o) (oc (br n) ((L.drop a).take m))=((L.drop o).take aa).take x++oc (br n) (((L.drop o).take aa).drop x):=by
  have e1:a-o=x:=by omega
  have e2:((L.drop o).take aa).drop x=(L.drop a).take m:=by rw [List.drop_take,List.drop_drop,ea,em]
  have e3:((L.drop o).take aa).drop (a+m-o)=[]:=List.drop_eq_nil_of_le (by simp;omega)
  unfold ct
  rw [e1,e2,e3,List.append_nil]
 rw [eL] at h3
 rw [pU,←eo] at h
 exact ⟨by have a1:=kp.1;have a2:=k2.1;have a3:=k3.1;rw [List.length_set] at a2;omega,h T3 p hp h3 (kp.new ((aA.set T' p _).trans (k2.trans k3 (k:=[p]) (by simp) (by simp)) (k:=[p]) (by simp) (by simp)) (by simpa using hp))⟩
theorem aay {T:aj}{q rows aa y x:Nat}{n:Int}{L:List Ce}{K:DV→aj→Prop}(hq:T[q]?=some (some (.arr 3 (av L))))(g:bW L rows aa)(hy:y<rows)(hx:x≤aa)
  (h:∀T' p,T.length≤p→T'[p]?=some (some (.arr 3 (av (Dz L aa y x n))))→aA T T' []→K (.own p 0 L.length) T'):aq PG 104 [.own q 0 L.length,.int .i64 aa,.int .i64 y,.int .i64 x,.int .i64 n] T K:=by
 have h1:=g.r
 have h2:=g.c
 have hl:=g.lim
 have hrow:=dc (aa:=aa) hy
 have pU:=bB y aa
 have hgl:=g.len
 have hn:br n≤1000:=by unfold br;omega
 refine aq.aE tK Nk (by simp [Hq]) ?_
 unfold Hq
 dsimp only
 simp -implicitDefEqProofs -dsimp only [gJ,eA,gk,gj,dI,ai hq,vcS,↓an,↓ak,simprocAttr]
 refine pY hq (by omega) hl.2 hl.1 fun T' p hp hA kp=>?_
 simp only [List.drop_zero,List.take_length] at hA
 simp -implicitDefEqProofs -dsimp only [gJ,eA,gk,gj,dI,ai hA,vcS,↓an,↓ak,simprocAttr]
 refine xj hA g hy ?_
 obtain ⟨o,eo⟩:∃o,o=y*aa:=⟨_,rfl⟩
 unfold Dz kD cM at h
 rw [←eo] at h ⊢
 obtain ⟨a,ea⟩:∃a,a=o+x:=⟨_,rfl⟩
 obtain ⟨m,em⟩:∃m,m=aa-x:=⟨_,rfl⟩
 obtain ⟨k,ek⟩:∃k,k=min (br n) m:=⟨_,rfl⟩
 have hmin:min ((br n:Nat):Int) ((m:Nat):Int)=(k:Int):=by omega
 have x0:(0:Int)≤(x:Int):=by omega
 have x1:(x:Int)≤aa:=by omega
 have c0:0<aa:=by omega
 have k0:(0:Int)≤(k:Int):=by omega
 have k1:k≤m:=by omega
 have al:a+m≤L.length:=by omega
 have ol:o+aa≤L.length:=by omega
 have hM0:((L.drop a).take m).length=m:=by simp;omega
 have hM:((L.drop (a+k)).take (m-k)).length=m-k:=by simp;omega
 have hmm:min (m-k) m=m-k:=by omega
 have htk:(List.take (m-k) (List.take (m-k) (L.drop (a+k))))=List.take (m-k) (L.drop (a+k)):=by rw [List.take_take,Nat.min_self]
 have hcp:av (List.take a L)++(av (List.take (m-k) (List.drop (a+k) L))++av (List.drop (a+(m-k)) L))=av (ct L a (a+(m-k)) ((L.drop (a+k)).take (m-k))):=by rw [hY,hY];simp [ct]
 have hw5:IntKind.i64.wrap ((m:Int)-(k:Int))=((m-k:Nat):Int):=by rw [aP (by omega) (by omega)];omega
 have z5:(0:Int)≤((m-k:Nat):Int):=by omega
 have z6:m-k≤m:=by omega
 have z7:m-(m-k)=k:=by omega
 have z3:a+(k+(m-k))≤L.length:=by omega
 simp -implicitDefEqProofs -dsimp only [gJ,eA,gk,gj,dI,ai hA,←ea,←em,hmin,x0,x1,hx,c0,k0,k1,al,ol,z3,aH,jf,je,hM,hmm,htk,hcp,hw5,z5,z6,z7,vcS,↓an,↓ak,simprocAttr]
 have hbm:a+m-a=m:=by omega
 have m1:((L.drop (a+k)).take (m-k)).length=a+(m-k)-a:=by rw [hM];omega
 have l1:(ct L a (a+(m-k)) ((L.drop (a+k)).take (m-k))).length=L.length:=bL (by omega) (by omega) m1
 refine xu (L:=ct L a (a+(m-k)) ((L.drop (a+k)).take (m-k))) (n:=k) (bX hA _) (by rw [l1];omega) (by rw [l1];omega) fun T2 h2 k2=>?_
 have hd:=Y6 (L:=L) (a:=a) (b:=a+m) (k:=k) (k0:=br n) (by omega) al (by rw [hbm];exact ek)
 rw [hbm] at hd
 rw [hd] at h2
 have m2:(oa (br n) ((L.drop a).take m)).length=a+m-a:=by rw [kn,hM0];omega
 have l2:(ct L a (a+m) (oa (br n) ((L.drop a).take m))).length=L.length:=bL (by omega) al m2
 simp -implicitDefEqProofs -dsimp only [gJ,eA,gk,gj,dI,vcS,↓an,↓ak,simprocAttr]
 refine qE h2 (by rw [l2];exact ol) (by rw [l2];exact hl.1) fun T3 h3 k3=>?_
 simp -implicitDefEqProofs -dsimp only [gJ,eA,gk,gj,dI,vcS,↓an,↓ak,simprocAttr]
 have hoc:o+aa-o=aa:=by omega
 have hp2:=Bj (L:=L) (M:=oa (br n) ((L.drop a).take m)) (o:=o) (a:=a) (b:=a+m) (e:=o+aa) (by omega) (by omega) (by omega) ol m2
 rw [hoc] at hp2
 rw [hp2,Bk (by omega) (by omega) (by omega) ol m2 (by rw [bO,bL (by omega) (by simp;omega) (by rw [m2];omega)];simp;omega)] at h3
 have eL:ct ((L.drop o).take aa) (a-o) (a+m-o) (oa (br n) ((L.drop a).take m))=((L.drop o).take aa).take x++oa (br n) (((L.drop o).take aa).drop x):=by
  have e1:a-o=x:=by omega
  have e2:((L.drop o).take aa).drop x=(L.drop a).take m:=by rw [List.drop_take,List.drop_drop,ea,em]
  have e3:((L.drop o).take aa).drop (a+m-o)=[]:=List.drop_eq_nil_of_le (by simp;omega)
  unfold ct
  rw [e1,e2,e3,List.append_nil]
 rw [eL] at h3
 rw [pU,←eo] at h
 exact ⟨by have a1:=kp.1;have a2:=k2.1;have a3:=k3.1;rw [List.length_set] at a2;omega,h T3 p hp h3 (kp.new ((aA.set T' p _).trans (k2.trans k3 (k:=[p]) (by simp) (by simp)) (k:=[p]) (by simp) (by simp)) (by simpa using hp))⟩
theorem xl {T:aj}{q rows aa y:Nat}{f t:Int}{L:List Ce}{K:DV→aj→Prop}(hq:T[q]?=some (some (.arr 3 (av L))))(g:bW L rows aa)(hy:y<rows)
  (h:∀T' p,T.length≤p→T'[p]?=some (some (.arr 3 (av (kJ L aa y f t))))→aA T T' []→K (.own p 0 L.length) T'):aq PG 105 [.own q 0 L.length,.int .i64 aa,.int .i64 y,.int .i64 f,.int .i64 t] T K:=by
 have h1:=g.r
 have h2:=g.c
 have hl:=g.lim
 have hrow:=dc (aa:=aa) hy
 have pU:=bB y aa
 have hgl:=g.len
 refine aq.aE tK Nj (by simp [Hp]) ?_
 unfold Hp
 dsimp only
 simp -implicitDefEqProofs -dsimp only [gJ,eA,gk,gj,dI,ai hq,vcS,↓an,↓ak,simprocAttr]
 refine pY hq (by omega) hl.2 hl.1 fun T' p hp hA kp=>?_
 simp only [List.drop_zero,List.take_length] at hA
 simp -implicitDefEqProofs -dsimp only [gJ,eA,gk,gj,dI,ai hA,vcS,↓an,↓ak,simprocAttr]
 refine xj hA g hy ?_
 obtain ⟨o,eo⟩:∃o,o=y*aa:=⟨_,rfl⟩
 unfold kJ kD cM at h
 rw [←eo] at h ⊢
 obtain ⟨a,ea⟩:∃a,a=cI f aa:=⟨_,rfl⟩
 obtain ⟨b,eb⟩:∃b,b=cI t aa:=⟨_,rfl⟩
 rw [←ea,←eb] at h
 obtain ⟨c,ec⟩:∃c,c=max a b:=⟨_,rfl⟩
 rw [←ec] at h
 unfold cI at ea eb
 have ha:min (max f 0) (aa:Int)=(a:Int):=by omega
 have hb:min (max t 0) (aa:Int)=(b:Int):=by omega
 have hc:max (a:Int) (b:Int)=(c:Int):=by omega
 have c0:0<aa:=by omega
 have ac:a≤c:=by omega
 have cc:c≤aa:=by omega
 have ol:o+aa≤L.length:=by omega
 simp -implicitDefEqProofs -dsimp only [gJ,eA,gk,gj,dI,ai hA,ha,hb,hc,c0,ac,cc,ol,aH,vcS,↓an,↓ak,simprocAttr]
 refine ⟨by omega,by omega, ?_⟩
 refine xu (n:=c-a) hA (by omega) hl.1 fun T2 h2 k2=>?_
 have acO:o+a+(c-a)=o+c:=by omega
 rw [acO] at h2
 have m2:(List.replicate (c-a) aN).length=(o+c)-(o+a):=by simp;omega
 have l2:(ct L (o+a) (o+c) (List.replicate (c-a) aN)).length=L.length:=bL (by omega) (by omega) m2
 simp -implicitDefEqProofs -dsimp only [gJ,eA,gk,gj,dI,vcS,↓an,↓ak,simprocAttr]
 refine qE h2 (by rw [l2];exact ol) (by rw [l2];exact hl.1) fun T3 h3 k3=>?_
 simp -implicitDefEqProofs -dsimp only [gJ,eA,gk,gj,dI,vcS,↓an,↓ak,simprocAttr]
 have hoc:o+aa-o=aa:=by omega
 have hp2:=Bj (L:=L) (M:=List.replicate (c-a) aN) (o:=o) (a:=o+a) (b:=o+c) (e:=o+aa) (by omega) (by omega) (by omega) ol m2
 rw [hoc] at hp2
 have e1:o+a-o=a:=by omega
 have e2:o+c-o=c:=by omega
 rw [e1,e2] at hp2
 rw [hp2,Bk (by omega) (by omega) (by omega) ol m2 (by rw [bO,bL (by omega) (by simp;omega) (by simp)];simp;omega)] at h3
 rw [pU,←eo] at h
 exact ⟨by have a1:=kp.1;have a2:=k2.1;have a3:=k3.1;omega,h T3 p hp h3 (kp.new (k2.trans k3 (k:=[p]) (by simp) (by simp)) (by simpa using hp))⟩
noncomputable def nE:RFn:=⟨1,8,(SR [OP 2 (.mov (.c (.sl 0 [] .nil)))] [0] (.seq (SR [MV 3 0,OP 4 (.jw false (.t 3) (.c (.sl 0 [] .nil)))] [0,4] (.cond (.t 4) (SR [OP 2 (.mov (.c (.sl 0 [] .nil)))] [2] .ret) .skip)) (SR [OP 5 (.bJ 1 [.bool false] 0 []),MV 6 0,OP 7 (.append 1 1 (.t 5) (.t 6)),MV 2 7] [2] .ret))),[.t 2]⟩
theorem uB:aK PG.P [⟨0,0,[0],[]⟩,⟨1,0,[0,4],[]⟩,⟨2,0,[2],[]⟩,⟨3,0,[2],[]⟩] 56=some nE:=by kernel_rfl
noncomputable def AL:RFn:=⟨1,6,(SR [MB 2 false] [0] (SR [MV 3 0,OP 4 (.build [.int .i32 0,.int .u16 0,.int .u8 0] [(0,(1,(.c (.int .i32 32)))),(1,(1,(.t 3)))]),OP 5 (.call 47 [.t 4]),MV 2 5] [2] .ret)),[.t 2]⟩
theorem Jy:aK PG.P [⟨0,0,[0],[]⟩,⟨1,0,[2],[]⟩] 28=some AL:=by kernel_rfl
def bn (L:List Bool):List (List DV):=L.map fun b=> [.bool b]
theorem bC (L:List Bool):(bn L).length=L.length:=by simp [bn]
theorem fc {L:List Bool}{i:Nat}(h:i<L.length):(bn L)[i]?=some [.bool (L.getD i false)]:=by simp [bn,h]
theorem iW (L:List Bool)(i:Nat)(b:Bool):(bn L).set i [.bool b]=bn (L.set i b):=by simp [bn,List.map_set]
theorem oJ (n:Nat)(b:Bool):List.replicate n [DV.bool b]=bn (List.replicate n b):=by simp [bn]
noncomputable def wg:RFn:=⟨0,24,(SR [OP 0 (.alloc [.int .i32 0,.int .i32 0,.int .i64 0,.int .i32 0,.int .i32 0,.int .i64 0,.int .i32 0,.int .i32 0,.int .i64 0,.int .i32 0,.int .i32 0,.int .i64 0,.int .i32 0,.int .i32 0,.int .i64 0,.int .i32 0,.int .i32 0,.int .i64 0,.int .i32 0,.int .i32 0,.int .i64 0,.int .i32 0,.int .i32 0,.int .i64 0,.int .i32 0,.int .i32 0,.int .i64 0,.int .i32 0,.int .i32 0,.int .i64 0,.int .i32 0,.int .i32 0,.int .i64 0,.int .i32 0,.int .i32 0,.int .i64 0,.int .i32 0,.int .i32 0,.int .i64 0,.int .i32 0,.int .i32 0,.int .i64 0,.int .i32 0,.int .i32 0,.int .i64 0,.int .i32 0,.int .i32 0,.int .i64 0,.int .i32 0,.int .i32 0,.int .i64 0,.int .i32 0,.int .i32 0,.int .i64 0,.int .i32 0,.int .i32 0,.int .i64 0,.int .i32 0,.int .i32 0,.int .i64 0,.int .i32 0,.int .i32 0,.int .i64 0,.int .i32 0,.int .i32 0,.int .i64 0])] [0] (SR [OP 1 (.build [.int .i32 0,.int .i32 0,.int .i64 0] [(0,(1,(.c (.int .i32 0)))),(1,(1,(.c (.int .i32 31)))),(2,(1,(.c (.int .i64 0))))]),OP 2 (.build [.int .i32 0,.int .i32 0,.int .i64 0] [(0,(1,(.c (.int .i32 127)))),(1,(1,(.c (.int .i32 159)))),(2,(1,(.c (.int .i64 0))))]),OP 3 (.build [.int .i32 0,.int .i32 0,.int .i64 0] [(0,(1,(.c (.int .i32 768)))),(1,(1,(.c (.int .i32 879)))),(2,(1,(.c (.int .i64 0))))]),OP 4 (.build [.int .i32 0,.int .i32 0,.int .i64 0] [(0,(1,(.c (.int .i32 4352)))),(1,(1,(.c (.int .i32 4447)))),(2,(1,(.c (.int .i64 2))))]),OP 5 (.build [.int .i32 0,.int .i32 0,.int .i64 0] [(0,(1,(.c (.int .i32 8203)))),(1,(1,(.c (.int .i32 8207)))),(2,(1,(.c (.int .i64 0))))]),OP 6 (.build [.int .i32 0,.int .i32 0,.int .i64 0] [(0,(1,(.c (.int .i32 11904)))),(1,(1,(.c (.int .i32 12350)))),(2,(1,(.c (.int .i64 2))))]),OP 7 (.build [.int .i32 0,.int .i32 0,.int .i64 0] [(0,(1,(.c (.int .i32 12353)))),(1,(1,(.c (.int .i32 13311)))),(2,(1,(.c (.int .i64 2))))]),OP 8 (.build [.int .i32 0,.int .i32 0,.int .i64 0] [(0,(1,(.c (.int .i32 13312)))),(1,(1,(.c (.int .i32 19903)))),(2,(1,(.c (.int .i64 2))))]),OP 9 (.build [.int .i32 0,.int .i32 0,.int .i64 0] [(0,(1,(.c (.int .i32 19968)))),(1,(1,(.c (.int .i32 40959)))),(2,(1,(.c (.int .i64 2))))]),OP 10 (.build [.int .i32 0,.int .i32 0,.int .i64 0] [(0,(1,(.c (.int .i32 40960)))),(1,(1,(.c (.int .i32 42191)))),(2,(1,(.c (.int .i64 2))))]),OP 11 (.build [.int .i32 0,.int .i32 0,.int .i64 0] [(0,(1,(.c (.int .i32 44032)))),(1,(1,(.c (.int .i32 55203)))),(2,(1,(.c (.int .i64 2))))]),OP 12 (.build [.int .i32 0,.int .i32 0,.int .i64 0] [(0,(1,(.c (.int .i32 55296)))),(1,(1,(.c (.int .i32 57343)))),(2,(1,(.c (.int .i64 0))))]),OP 13 (.build [.int .i32 0,.int .i32 0,.int .i64 0] [(0,(1,(.c (.int .i32 63744)))),(1,(1,(.c (.int .i32 64255)))),(2,(1,(.c (.int .i64 2))))]),OP 14 (.build [.int .i32 0,.int .i32 0,.int .i64 0] [(0,(1,(.c (.int .i32 65024)))),(1,(1,(.c (.int .i32 65039)))),(2,(1,(.c (.int .i64 0))))]),OP 15 (.build [.int .i32 0,.int .i32 0,.int .i64 0] [(0,(1,(.c (.int .i32 65072)))),(1,(1,(.c (.int .i32 65135)))),(2,(1,(.c (.int .i64 2))))]),OP 16 (.build [.int .i32 0,.int .i32 0,.int .i64 0] [(0,(1,(.c (.int .i32 65280)))),(1,(1,(.c (.int .i32 65376)))),(2,(1,(.c (.int .i64 2))))]),OP 17 (.build [.int .i32 0,.int .i32 0,.int .i64 0] [(0,(1,(.c (.int .i32 65504)))),(1,(1,(.c (.int .i32 65510)))),(2,(1,(.c (.int .i64 2))))]),OP 18 (.build [.int .i32 0,.int .i32 0,.int .i64 0] [(0,(1,(.c (.int .i32 127744)))),(1,(1,(.c (.int .i32 128591)))),(2,(1,(.c (.int .i64 2))))]),OP 19 (.build [.int .i32 0,.int .i32 0,.int .i64 0] [(0,(1,(.c (.int .i32 129280)))),(1,(1,(.c (.int .i32 129535)))),(2,(1,(.c (.int .i64 2))))]),OP 20 (.build [.int .i32 0,.int .i32 0,.int .i64 0] [(0,(1,(.c (.int .i32 131072)))),(1,(1,(.c (.int .i32 196605)))),(2,(1,(.c (.int .i64 2))))]),OP 21 (.build [.int .i32 0,.int .i32 0,.int .i64 0] [(0,(1,(.c (.int .i32 196608)))),(1,(1,(.c (.int .i32 262141)))),(2,(1,(.c (.int .i64 2))))]),OP 22 (.build [.int .i32 0,.int .i32 0,.int .i64 0] [(0,(1,(.c (.int .i32 1114112)))),(1,(1,(.c (.int .i32 2147483647)))),(2,(1,(.c (.int .i64 0))))]),OP 23 (.build [.int .i32 0,.int .i32 0,.int .i64 0,.int .i32 0,.int .i32 0,.int .i64 0,.int .i32 0,.int .i32 0,.int .i64 0,.int .i32 0,.int .i32 0,.int .i64 0,.int .i32 0,.int .i32 0,.int .i64 0,.int .i32 0,.int .i32 0,.int .i64 0,.int .i32 0,.int .i32 0,.int .i64 0,.int .i32 0,.int .i32 0,.int .i64 0,.int .i32 0,.int .i32 0,.int .i64 0,.int .i32 0,.int .i32 0,.int .i64 0,.int .i32 0,.int .i32 0,.int .i64 0,.int .i32 0,.int .i32 0,.int .i64 0,.int .i32 0,.int .i32 0,.int .i64 0,.int .i32 0,.int .i32 0,.int .i64 0,.int .i32 0,.int .i32 0,.int .i64 0,.int .i32 0,.int .i32 0,.int .i64 0,.int .i32 0,.int .i32 0,.int .i64 0,.int .i32 0,.int .i32 0,.int .i64 0,.int .i32 0,.int .i32 0,.int .i64 0,.int .i32 0,.int .i32 0,.int .i64 0,.int .i32 0,.int .i32 0,.int .i64 0,.int .i32 0,.int .i32 0,.int .i64 0] [(0,(3,(.t 1))),(3,(3,(.t 2))),(6,(3,(.t 3))),(9,(3,(.t 4))),(12,(3,(.t 5))),(15,(3,(.t 6))),(18,(3,(.t 7))),(21,(3,(.t 8))),(24,(3,(.t 9))),(27,(3,(.t 10))),(30,(3,(.t 11))),(33,(3,(.t 12))),(36,(3,(.t 13))),(39,(3,(.t 14))),(42,(3,(.t 15))),(45,(3,(.t 16))),(48,(3,(.t 17))),(51,(3,(.t 18))),(54,(3,(.t 19))),(57,(3,(.t 20))),(60,(3,(.t 21))),(63,(3,(.t 22)))]),SA 66 0 23] [0] .ret)),[.c 0 true 66]⟩
theorem GF:aK PG.P [⟨0,0,[0],[]⟩,⟨1,0,[0],[]⟩] 127=some wg:=by kernel_rfl
def bA:List (Int × Int × Int):=[(0,31,0),(127,159,0),(768,879,0),(4352,4447,2),(8203,8207,0),(11904,12350,2),(12353,13311,2),(13312,19903,2),(19968,40959,2),(40960,42191,2),(44032,55203,2),(55296,57343,0),(63744,64255,2),(65024,65039,0),(65072,65135,2),(65280,65376,2),(65504,65510,2),(127744,128591,2),(129280,129535,2),(131072,196605,2),(196608,262141,2),(1114112,2147483647,0)]
def iP:List DV:=bA.flatMap fun p=> [.int .i32 p.1,.int .i32 p.2.1,.int .i64 p.2.2]
theorem Tr {T:aj}{K:DV→aj→Prop}(h:∀T',aA T T' []→K (.agg iP) T'):aq PG 127 [] T K:=by
 refine aq.aE FOk.nil GF (by simp [wg]) ?_
 unfold wg
 dsimp only
 simp -implicitDefEqProofs -dsimp only [ah,vcS,↓an,↓ak,simprocAttr]
 exact h _ (aA.app _ _ _)
noncomputable def GG:RFn:=⟨1,11,(SR [MB 4 false] [0,1,2] (.seq (.cK (.take (MV 5 0) [] (.take (OP 6 (.hD 22 3 (.t 1) (.t 5))) [] (.take (FA 7 1 6) [] (.take (LD 8 7) [] (.take (LD 9 2) [] (.take (BT 10 .geq 8 9) [] (.take (MV 4 10) [] .done))))))) 0 [4]) .ret)),[.t 4]⟩
theorem M4:aK PG.P [⟨0,0,[0,1,2],[]⟩,⟨1,0,[4],[]⟩] 129=some GG:=by kernel_rfl
def TN (p:Int × Int × Int):List DV:=[.int .i32 p.1,.int .i32 p.2.1,.int .i64 p.2.2]
theorem Ow:∀(l:List (Int × Int × Int)) (i:Nat) (p:Int × Int × Int),l[i]?=some p→(l.flatMap TN)[i*3]?=some (.int .i32 p.1)∧(l.flatMap TN)[i*3+1]?=some (.int .i32 p.2.1)∧(l.flatMap TN)[i*3+2]?=some (.int .i64 p.2.2)
 | [],i,p,h=>by simp at h
 | x::l,0,p,h=>by simp at h;subst h;simp [TN]
 | x::l,i+1,p,h=>by
  have:=Ow l i p (by simpa using h)
  rw [List.flatMap_cons,show (i+1)*3=i*3+3 by omega]
  simpa [TN] using this
theorem zQ {i:Nat}{p:Int × Int × Int}(h:bA[i]?=some p):iP[i*3]?=some (.int .i32 p.1)∧iP[i*3+1]?=some (.int .i32 p.2.1)∧iP[i*3+2]?=some (.int .i64 p.2.2):=Ow bA i p h
theorem ZA {T:aj}{K:DV→aj→Prop}{a b i:Nat}{r:Int}(ha:T[a]?=some (some (.box iP)))(hb:T[b]?=some (some (.box [.int .i32 r])))(hi:i<22)
  (h:∀p,bA[i]?=some p→K (.bool (decide (r≤p.2.1))) T):aq PG 129 [.int .i64 i,.ptr a 0 0,.ptr b 0 0] T K:=by
 have hi0:(0:Int)≤i:=by omega
 have hi1:(i:Int)<22:=by omega
 obtain ⟨p,hp⟩:∃p,bA[i]?=some p:=⟨_,List.getElem?_eq_getElem (show i<bA.length from hi)⟩
 have hg:=(zQ hp).2.1
 refine aq.aE FOk.nil M4 (by simp [GG]) ?_
 unfold GG
 dsimp only
 simp -implicitDefEqProofs -dsimp only [ah,ai ha,ai hb,hi0,hi1,hg,vcS,↓an,↓ak,simprocAttr]
 exact h p hp
noncomputable def uq:RC:=(.seq (SR [MV 9 5,MV 10 6,BT 11 .lss 9 10] [1,5,6,11] (.cond (.t 11) .skip (.ext 0))) (.blk 1 (SR [MV 12 5,MV 13 6,BT 14 .add 12 13,OP 15 (.conv (.i2i .u64) (.t 14)),OP 16 (.bin .shr (.t 15) (.c (.int .u64 1))),OP 17 (.conv (.i2i .i64) (.t 16)),MV 7 17] [1,5,6,7] (SR [MV 18 1,MV 19 7,OP 20 (.iH (.t 18) [.t 19]),OP 21 (.un .not (.t 20))] [1,5,6,7,21] (.cond (.t 21) (.reg [MV 22 7,BI 23 .add 22 1,MV 5 23] 0 [1,5,6]) (.reg [MV 24 7,MV 6 24] 0 [1,5,6]))))))
noncomputable def wC:RFn:=⟨2,26,(SR [OP 4 (.mov (.c (.int .i64 0)))] [0,1] (SR [MV 8 0,OP 5 (.mov (.c (.int .i64 0))),MV 6 8] [1,5,6] (.seq (.blk 0 (.loop uq)) (SR [MV 25 5,MV 4 25] [4] .ret)))),[.t 4]⟩
theorem GV:aK PG.P [⟨0,0,[0,1],[]⟩,⟨1,0,[1,5,6],[]⟩,⟨2,0,[1,5,6,11],[]⟩,⟨3,0,[1,5,6,7],[]⟩,⟨4,0,[1,5,6,7,21],[]⟩,⟨5,0,[1,5,6],[]⟩,⟨6,0,[1,5,6],[]⟩,⟨7,0,[4],[]⟩] 128=some wC:=by kernel_rfl
theorem Mv:∀i<22,∀j<22,i≤j→(bA.getD i (0,0,0)).2.1≤(bA.getD j (0,0,0)).2.1:=by decide +kernel
theorem DL {i j:Nat}{p q:Int × Int × Int}(h:i≤j)(hp:bA[i]?=some p)(hq:bA[j]?=some q):p.2.1≤q.2.1:=by
 have hi:i<22:=(List.getElem?_eq_some_iff.1 hp).1
 have hj:j<22:=(List.getElem?_eq_some_iff.1 hq).1
 have:=Mv i hi j hj h
 simpa [List.getD_eq_getElem?_getD,hp,hq] using this
theorem wrap_u64 {n:Int}(h0:0≤n)(h1:n<18446744073709551616):IntKind.u64.wrap n=n:=by
 unfold IntKind.wrap
 simp only [show IntKind.u64.bits=64 from rfl,show IntKind.u64.signed=false from rfl]
 simp
 omega
theorem Rw {T:aj}{K:DV→aj→Prop}{a b:Nat}{r:Int}(ha:T[a]?=some (some (.box iP)))(hb:T[b]?=some (some (.box [.int .i32 r])))
  (h:∀i:Nat,i≤22→(∀j p,j<i→bA[j]?=some p→p.2.1<r)→(∀j p,i≤j→bA[j]?=some p→r≤p.2.1)→K (.int .i64 i) T):aq PG 128 [.int .i64 22,.wrap (.clo 129) [.ptr a 0 0,.ptr b 0 0]] T K:=by
 refine aq.aE FOk.nil GV (by simp [wC]) ?_
 unfold wC
 dsimp only
 simp -implicitDefEqProofs -dsimp only [ah,ai ha,ai hb,vcS,↓an,↓ak,simprocAttr]
 refine bp.inv FOk.nil (S:=fun s:Nat × Nat=>⟨[(1,.wrap (.clo 129) [.ptr a 0 0,.ptr b 0 0]),(5,.int .i64 s.1),(6,.int .i64 s.2)],T⟩)
  (I:=fun s=>s.1≤s.2∧s.2≤22∧(∀j p,j<s.1→bA[j]?=some p→p.2.1<r)∧(∀j p,s.2≤j→bA[j]?=some p→r≤p.2.1))
  (μ:=fun s=>s.2-s.1) (0,22) ⟨by simp,by simp,fun j p hj=>by omega,fun j p hj hp=>by
   have:j<bA.length:=(List.getElem?_eq_some_iff.1 hp).1
   have e:bA.length=22:=rfl
   dsimp only at hj;omega⟩ ?_ ?_
 ·simp -implicitDefEqProofs -dsimp only [ax,vcS,↓an,↓ak,simprocAttr]
 ·intro ⟨lo,hi⟩ ⟨h1,h2,h3,h4⟩
  dsimp only at h1 h2 h3 h4 ⊢
  unfold uq
  by_cases hc:lo<hi
  ·have hc':(lo:Int)<hi:=by omega
   have hw1:IntKind.i64.wrap ((lo:Int)+hi)=((lo+hi:Nat):Int):=by rw [aP (by omega) (by omega)];omega
   have hm:IntKind.i64.wrap ((IntKind.u64.wrap ((lo+hi:Nat):Int)).fdiv (2 ^ min 1 IntKind.u64.bits))=(((lo+hi) / 2:Nat):Int):=by
    rw [show min 1 IntKind.u64.bits=1 from rfl,wrap_u64 (by omega) (by omega),Int.fdiv_eq_ediv_of_nonneg _ (by decide),aP (by omega) (by omega)]
    omega
   have hmid:(lo+hi) / 2<22:=by omega
   have VF:fG PG.P 129=true:=by kernel_rfl
   simp -implicitDefEqProofs -dsimp only [hc',hw1,fQ,fM,VF,ax,hm,vcS,↓an,↓ak,simprocAttr]
   refine ZA ha hb hmid fun p hp=>?_
   generalize hmm:(lo+hi) / 2=m at *
   have hwm:IntKind.i64.wrap ((m:Int)+1)=((m+1:Nat):Int):=by rw [aP (by omega) (by omega)];omega
   by_cases hr:r≤p.2.1
   ·have hd:decide (r≤p.2.1)=true:=decide_eq_true hr
    rw [hd]
    simp -implicitDefEqProofs -dsimp only [hc',hw1,hm,hwm,ax,vcS,↓an,↓ak,simprocAttr]
    refine ⟨(lo,m),⟨rfl,rfl⟩,⟨by dsimp only;omega,by dsimp only;omega,h3,fun j q hj hq=>?_⟩,by dsimp only;omega⟩
    exact Int.le_trans hr (DL hj hp hq)
   ·have hd:decide (r≤p.2.1)=false:=decide_eq_false hr
    rw [hd]
    simp -implicitDefEqProofs -dsimp only [hc',hw1,hm,hwm,ax,vcS,↓an,↓ak,simprocAttr]
    refine ⟨(m+1,hi),⟨rfl,rfl⟩,⟨by dsimp only;omega,h2,fun j q hj hq=>?_,h4⟩,by dsimp only;omega⟩
    have:=DL (i:=j) (j:=m) (by dsimp only at hj;omega) hq hp
    omega
  ·have hc':¬(lo:Int)<hi:=by omega
   simp -implicitDefEqProofs -dsimp only [hc',ax,vcS,↓an,↓ak,simprocAttr]
   have:lo=hi:=by omega
   subst this
   exact h lo h2 h3 h4
noncomputable def M5:RFn:=⟨1,24,(SR [OP 1 (.box 1 (.t 0)),OP 2 (.mov (.c (.int .i64 0)))] [1] (.seq (SR [LD 5 1,OP 6 (.bin .lss (.t 5) (.c (.int .i32 0)))] [1,6] (.cond (.t 6) (SR [OP 2 (.mov (.c (.int .i64 0)))] [2] .ret) .skip)) (SR [OP 7 (.call 127 []),OP 3 (.alloc [.int .i32 0,.int .i32 0,.int .i64 0,.int .i32 0,.int .i32 0,.int .i64 0,.int .i32 0,.int .i32 0,.int .i64 0,.int .i32 0,.int .i32 0,.int .i64 0,.int .i32 0,.int .i32 0,.int .i64 0,.int .i32 0,.int .i32 0,.int .i64 0,.int .i32 0,.int .i32 0,.int .i64 0,.int .i32 0,.int .i32 0,.int .i64 0,.int .i32 0,.int .i32 0,.int .i64 0,.int .i32 0,.int .i32 0,.int .i64 0,.int .i32 0,.int .i32 0,.int .i64 0,.int .i32 0,.int .i32 0,.int .i64 0,.int .i32 0,.int .i32 0,.int .i64 0,.int .i32 0,.int .i32 0,.int .i64 0,.int .i32 0,.int .i32 0,.int .i64 0,.int .i32 0,.int .i32 0,.int .i64 0,.int .i32 0,.int .i32 0,.int .i64 0,.int .i32 0,.int .i32 0,.int .i64 0,.int .i32 0,.int .i32 0,.int .i64 0,.int .i32 0,.int .i32 0,.int .i64 0,.int .i32 0,.int .i32 0,.int .i64 0,.int .i32 0,.int .i32 0,.int .i64 0]),SA 66 3 7] [1,3] (SR [OP 8 (.w7 129 [.t 3,.t 1]),OP 9 (.call 128 [.c (.int .i64 22),.t 8]),MV 4 9] [1,3,4] (.seq (.seq (.cK (.take (MV 10 4) [] (.take (BI 11 .lss 10 22) [] (.take (MV 12 11) [] (.take (MG 13 4 12 true) [] (.take (OG 14 (.hD 22 3 (.t 3) (.t 13)) 12 true) [] (.take (FG 15 0 14 12 true) [] (.take (LG 16 15 12 true) [] (.take (LG 17 1 12 true) [] (.take (OG 18 (.bin .leq (.t 16) (.t 17)) 12 true) [] (.take (OP 19 (.pick (.t 12) (.t 18) (.c (.bool false)))) [] .done)))))))))) 0 [3,4,19]) (.cond (.t 19) (SR [MV 20 4,OP 21 (.hD 22 3 (.t 3) (.t 20)),FA 22 2 21,LD 23 22,MV 2 23] [2] .ret) .skip)) (SR [OP 2 (.mov (.c (.int .i64 1)))] [2] .ret)))))),[.t 2]⟩
theorem Sh:aK PG.P [⟨0,0,[1],[]⟩,⟨1,0,[1,6],[]⟩,⟨2,0,[2],[]⟩,⟨3,0,[1,3],[]⟩,⟨4,0,[1,3,4],[]⟩,⟨5,0,[3,4,19],[]⟩,⟨6,0,[2],[]⟩,⟨7,0,[2],[]⟩] 96=some M5:=by kernel_rfl
theorem Mw {r:Int}{i:Nat}(hr:0≤r)(hr2:r≤2147483647)(h1:∀j p,j<i→bA[j]?=some p→p.2.1<r)(h2:∀j p,i≤j→bA[j]?=some p→r≤p.2.1)(hi:i<22) :
  ∃p,bA[i]?=some p∧(dy r:Int)=if p.1≤r then p.2.2 else 1:=by
 have hu:=h2 i _ (Nat.le_refl _) (List.getElem?_eq_getElem (show i<bA.length from hi))
 have hl:∀k,i=k+1→(bA.getD k (0,0,0)).2.1<r:=fun k e=>by
  have:=h1 k _ (by omega) (List.getElem?_eq_getElem (show k<bA.length by show k<22;omega))
  simpa [List.getD_eq_getElem?_getD,List.getElem?_eq_getElem (show k<bA.length by show k<22;omega)] using this
 refine ⟨_,List.getElem?_eq_getElem (show i<bA.length from hi), ?_⟩
 clear h1 h2
 unfold dy Bn inR iF
 simp only [List.any_cons,List.any_nil,Bool.or_false,decide_eq_true_eq,decide_eq_false_iff_not,Bool.or_eq_true]
 match i,hi with
 | 0,_=>simp [bA] at hu ⊢;(repeat' split) <;> omega
 | 1,_=>have:=hl 0 rfl;simp [bA] at hu this ⊢;(repeat' split) <;> omega
 | 2,_=>have:=hl 1 rfl;simp [bA] at hu this ⊢;(repeat' split) <;> omega
 | 3,_=>have:=hl 2 rfl;simp [bA] at hu this ⊢;(repeat' split) <;> omega
 | 4,_=>have:=hl 3 rfl;simp [bA] at hu this ⊢;(repeat' split) <;> omega
 | 5,_=>have:=hl 4 rfl;simp [bA] at hu this ⊢;(repeat' split) <;> omega
 | 6,_=>have:=hl 5 rfl;simp [bA] at hu this ⊢;(repeat' split) <;> omega
 | 7,_=>have:=hl 6 rfl;simp [bA] at hu this ⊢;(repeat' split) <;> omega
 | 8,_=>have:=hl 7 rfl;simp [bA] at hu this ⊢;(repeat' split) <;> omega
 | 9,_=>have:=hl 8 rfl;simp [bA] at hu this ⊢;(repeat' split) <;> omega
 | 10,_=>have:=hl 9 rfl;simp [bA] at hu this ⊢;(repeat' split) <;> omega
 | 11,_=>have:=hl 10 rfl;simp [bA] at hu this ⊢;(repeat' split) <;> omega
 | 12,_=>have:=hl 11 rfl;simp [bA] at hu this ⊢;(repeat' split) <;> omega
 | 13,_=>have:=hl 12 rfl;simp [bA] at hu this ⊢;(repeat' split) <;> omega
 | 14,_=>have:=hl 13 rfl;simp [bA] at hu this ⊢;(repeat' split) <;> omega
 | 15,_=>have:=hl 14 rfl;simp [bA] at hu this ⊢;(repeat' split) <;> omega
 | 16,_=>have:=hl 15 rfl;simp [bA] at hu this ⊢;(repeat' split) <;> omega
 | 17,_=>have:=hl 16 rfl;simp [bA] at hu this ⊢;(repeat' split) <;> omega
 | 18,_=>have:=hl 17 rfl;simp [bA] at hu this ⊢;(repeat' split) <;> omega
 | 19,_=>have:=hl 18 rfl;simp [bA] at hu this ⊢;(repeat' split) <;> omega
 | 20,_=>have:=hl 19 rfl;simp [bA] at hu this ⊢;(repeat' split) <;> omega
 | 21,_=>have:=hl 20 rfl;simp [bA] at hu this ⊢;(repeat' split) <;> omega
 | n+22,h=>omega
theorem Il:iP.length=66:=by decide
theorem Ik:iP.all DV.one=true:=by decide
theorem RA {r:Int}(h:r<0):(dy r:Int)=0:=by
 unfold dy Bn
 rw [if_pos (by simp;omega)];rfl
theorem Y4 {T:aj}{K:DV→aj→Prop}{r:Int}(hr:-2147483648≤r∧r≤2147483647)(h:∀T',aA T T' []→K (.int .i64 (dy r)) T'):aq PG 96 [.int .i32 r] T K:=by
 refine aq.aE FOk.nil Sh (by simp [M5]) ?_
 unfold M5
 dsimp only
 by_cases h0:r<0
 ·simp -implicitDefEqProofs -dsimp only [ah,h0,vcS,↓an,↓ak,simprocAttr]
  rw [←RA h0]
  exact h _ (aA.app _ _ _)
 ·simp -implicitDefEqProofs -dsimp only [ah,h0,vcS,↓an,↓ak,simprocAttr]
  refine Tr fun T' k=>?_
  simp -implicitDefEqProofs -dsimp only [ah,h0,Il,Ik,vcS,↓an,↓ak,simprocAttr]
  have hb:=k.at (bq T [] (some (Ob.box [.int .i32 r]))) (by simp)
  have ha:=bq T' [] (some (Ob.box iP))
  have kT:aA T (T'++ [some (Ob.box iP)]) []:=(((aA.app T _ []).new k (by simp))).eD _
  refine Rw (r:=r) ha (gO hb _) fun i hi h1 h2=>?_
  by_cases hi2:i<22
  ·obtain ⟨p,hp,hw⟩:=Mw (by omega) hr.2 h1 h2 hi2
   have hg:=zQ hp
   have hi3:(i:Int)<22:=by omega
   have hi0:(0:Int)≤i:=by omega
   by_cases hlo:p.1≤r
   ·rw [if_pos hlo] at hw
    simp -implicitDefEqProofs -dsimp only [ah,hi3,hi0,hg.1,hg.2.1,hg.2.2,ai ha,ai (gO hb [some (Ob.box iP)]),hlo,vcS,↓an,↓ak,simprocAttr]
    rw [←hw]
    exact ⟨by have:=kT.1;simp at this;omega,h _ kT⟩
   ·rw [if_neg hlo] at hw
    simp -implicitDefEqProofs -dsimp only [ah,hi3,hi0,hg.1,hg.2.1,hg.2.2,ai ha,ai (gO hb [some (Ob.box iP)]),hlo,vcS,↓an,↓ak,simprocAttr]
    rw [←hw]
    exact ⟨by have:=kT.1;simp at this;omega,h _ kT⟩
  ·have hl:=h1 21 (1114112,2147483647,0) (by omega) rfl
   dsimp only at hl
   omega
end Go.Proofs.YtjmnbpilnneonaaGreatDoor
