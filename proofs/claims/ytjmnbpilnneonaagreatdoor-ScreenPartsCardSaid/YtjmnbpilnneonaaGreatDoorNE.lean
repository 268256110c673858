/- Texts R8, R9, R10, R11 in one. -/
import Derived.Test.YtjmnbpilnneonaaGreatDoorND
import Derived.Test.YtjmnbpilnneonaaGreatDoorN7
import Derived.Test.YtjmnbpilnneonaaGreatDoorNB
import Derived.Test.YtjmnbpilnneonaaGreatDoorN4
set_option linter.unusedVariables false
set_option linter.unusedSimpArgs false
set_option maxRecDepth 10000
namespace Go.Proofs.YtjmnbpilnneonaaGreatDoor
open Go.RowKit
noncomputable def l7:RFn:=⟨1,30,(SR [OP 1 (.box 24 (.t 0)),OP 2 (.alloc [.int .i64 0,.int .i64 0,.sl 0 [] .nil,.int .i64 0,.int .i64 0,.bool false,.int .u16 0,.int .i64 0,.int .i64 0,.sl 0 [] .nil,.int .i64 0,.int .i64 0,.int .u16 0,.bool false,.bool false,.bool false,.sl 0 [] .nil,.int .i64 0,.int .i64 0,.int .i64 0,.int .u8 0,.sl 0 [] .nil,.sl 0 [] .nil,.sl 0 [] .nil])] [1,2] (SR [FA 3 5 1,NP (.store 1 (.t 3) (.c (.bool false)))] [1,2] (.seq (SR [FA 4 3 1,LD 5 4,FA 6 8 1,LD 7 6,BT 8 .eql 5 7] [1,2,8] (.cond (.t 8) (.reg [FA 9 2 1,LD 10 9,FA 11 1 1,LD 12 11,FA 13 7 1,LD 14 13,FA 15 8 1,LD 16 15,OP 17 (.call 119 [.t 10,.t 12,.t 14,.t 16,.c (.int .i64 1)]),FA 18 2 1,SA 1 18 17] 0 [1,2]) (SR [FA 19 3 1,LD 20 19,FA 21 0 1,LD 22 21,BI 23 .sub 22 1,BT 24 .lss 20 23] [1,2,24] (.cond (.t 24) (.reg [FA 25 3 1,LD 26 25,BI 27 .add 26 1,FA 28 3 1,SA 1 28 27] 0 [1,2]) .skip)))) (SR [LT 29 24 1,SA 24 2 29] [2] .ret)))),[.c 2 true 24]⟩
theorem pH:aK PG.P [⟨0,0,[1,2],[]⟩,⟨1,0,[1,2],[]⟩,⟨2,0,[1,2,8],[]⟩,⟨3,0,[1,2],[]⟩,⟨4,0,[1,2,24],[]⟩,⟨5,0,[1,2],[]⟩,⟨6,0,[2],[]⟩] 114=some l7:=by kernel_rfl
noncomputable def MZ:RFn:=⟨3,23,(SR [OP 3 (.box 24 (.t 0)),OP 6 (.alloc [.int .i64 0,.int .i64 0,.sl 0 [] .nil,.int .i64 0,.int .i64 0,.bool false,.int .u16 0,.int .i64 0,.int .i64 0,.sl 0 [] .nil,.int .i64 0,.int .i64 0,.int .u16 0,.bool false,.bool false,.bool false,.sl 0 [] .nil,.int .i64 0,.int .i64 0,.int .i64 0,.int .u8 0,.sl 0 [] .nil,.sl 0 [] .nil,.sl 0 [] .nil])] [1,2,3,6] (SR [MV 7 1,OP 8 (.mm true (.t 7) (.c (.int .i64 0))),FA 9 0 3,LD 10 9,BI 11 .sub 10 1,OP 12 (.mm false (.t 8) (.t 11)),MV 13 2,OP 14 (.mm true (.t 13) (.c (.int .i64 0))),FA 15 1 3,LD 16 15,BI 17 .sub 16 1,OP 18 (.mm false (.t 14) (.t 17)),FA 19 3 3,SA 1 19 12,FA 20 4 3,SA 1 20 18,FA 21 5 3,NP (.store 1 (.t 21) (.c (.bool false)))] [3,6] (SR [LT 22 24 3,SA 24 6 22] [6] .ret))),[.c 6 true 24]⟩
theorem Se:aK PG.P [⟨0,0,[1,2,3,6],[]⟩,⟨1,0,[3,6],[]⟩,⟨2,0,[6],[]⟩] 117=some MZ:=by kernel_rfl
theorem aG.of {s:Sc}{p:Pa}{z1 z2 z3:Nat}{k1 k2 k3:SK}{m pr:Int}{d1 d2 d3:DV}(h:ScV s p z1 z2 z3 m pr d1 d2 d3):aG s p (.agg (scD s z1 z2 z3 k1 k2 k3 m pr d1 d2 d3)):=⟨z1,z2,z3,k1,k2,k3,m,pr,d1,d2,d3,h,rfl⟩
theorem gK {T T':aj}{K:DV→aj→Prop}{d:DV}(k:aA T T' [])(h:aA T T' []→K d T'):T.length≤T'.length∧K d T':=⟨k.1,h k⟩
theorem xE.one {p:Pa}{m pr:Int}{d1 d2 d3:DV}(h:xE p m pr d1 d2 d3):DV.one d1=true∧DV.one d2=true∧DV.one d3=true:=by
 obtain ⟨a,b,e,_⟩:=aL h.i1
 obtain ⟨a',b',e',_⟩:=aL h.i2
 obtain ⟨a'',b'',e'',_⟩:=aL h.i3
 rw [e,e',e'']
 exact ⟨rfl,rfl,rfl⟩
theorem Xb {T:aj}{a k:Int}{K:DV→aj→Prop}(ha:0≤a∧a≤65535)(h:K (.int .u16 (bR a k)) T):aq PG 123 [.int .u16 a,.int .i64 k] T K:=by
 have o1:IntKind.u16.wrap ((BitVec.ofInt IntKind.u16.bits a ||| BitVec.ofInt IntKind.u16.bits 1).toNat:Nat)=mJ a 1:=Dq ha (by omega)
 have o2:IntKind.u16.wrap ((BitVec.ofInt IntKind.u16.bits a ||| BitVec.ofInt IntKind.u16.bits 2).toNat:Nat)=mJ a 2:=Dq ha (by omega)
 have o4:IntKind.u16.wrap ((BitVec.ofInt IntKind.u16.bits a ||| BitVec.ofInt IntKind.u16.bits 4).toNat:Nat)=mJ a 4:=Dq ha (by omega)
 have c1:IntKind.u16.wrap ((BitVec.ofInt IntKind.u16.bits a &&& ~~~ BitVec.ofInt IntKind.u16.bits 1).toNat:Nat)=jl a 1:=rP 1 (by decide) ha
 have c2:IntKind.u16.wrap ((BitVec.ofInt IntKind.u16.bits a &&& ~~~ BitVec.ofInt IntKind.u16.bits 2).toNat:Nat)=jl a 2:=rP 2 (by decide) ha
 have c4:IntKind.u16.wrap ((BitVec.ofInt IntKind.u16.bits a &&& ~~~ BitVec.ofInt IntKind.u16.bits 4).toNat:Nat)=jl a 4:=rP 4 (by decide) ha
 have zq:IntKind.u16.wrap ((BitVec.ofInt IntKind.u16.bits a &&& ~~~ BitVec.ofInt IntKind.u16.bits 240).toNat:Nat)=jl a 240:=rP 240 (by decide) ha
 have oU:IntKind.u16.wrap ((BitVec.ofInt IntKind.u16.bits a &&& ~~~ BitVec.ofInt IntKind.u16.bits 3840).toNat:Nat)=jl a 3840:=rP 3840 (by decide) ha
 have z4:(4:Int).toNat=4:=rfl
 have z8:(8:Int).toNat=8:=rfl
 rcases Decidable.em (k=0) with n0 | n0
 ·have e:bR a k=0:=by unfold bR;rw [if_pos n0]
  rw [e] at h
  refine aq.aE FOk.nil dK (by simp [cA]) ?_
  unfold cA
  dsimp only
  simp -implicitDefEqProofs -dsimp only [ah,o1,o2,o4,c1,c2,c4,zq,oU,z4,z8,eq_true n0,vcS,↓an,↓ak,simprocAttr]
  repeat' (first | exact h | intro _ | apply And.intro | (exfalso;omega))
 ·skip
  rcases Decidable.em (k=1) with n1 | n1
  ·have e:bR a k=mJ a 1:=by unfold bR;rw [if_neg n0,if_pos n1]
   rw [e] at h
   refine aq.aE FOk.nil dK (by simp [cA]) ?_
   unfold cA
   dsimp only
   simp -implicitDefEqProofs -dsimp only [ah,o1,o2,o4,c1,c2,c4,zq,oU,z4,z8,eq_false n0,eq_true n1,vcS,↓an,↓ak,simprocAttr]
   repeat' (first | exact h | intro _ | apply And.intro | (exfalso;omega))
  ·skip
   rcases Decidable.em (k=4) with n2 | n2
   ·have e:bR a k=mJ a 2:=by unfold bR;rw [if_neg n0,if_neg n1,if_pos n2]
    rw [e] at h
    refine aq.aE FOk.nil dK (by simp [cA]) ?_
    unfold cA
    dsimp only
    simp -implicitDefEqProofs -dsimp only [ah,o1,o2,o4,c1,c2,c4,zq,oU,z4,z8,eq_false n0,eq_false n1,eq_true n2,vcS,↓an,↓ak,simprocAttr]
    repeat' (first | exact h | intro _ | apply And.intro | (exfalso;omega))
   ·skip
    rcases Decidable.em (k=7) with n3 | n3
    ·have e:bR a k=mJ a 4:=by unfold bR;rw [if_neg n0,if_neg n1,if_neg n2,if_pos n3]
     rw [e] at h
     refine aq.aE FOk.nil dK (by simp [cA]) ?_
     unfold cA
     dsimp only
     simp -implicitDefEqProofs -dsimp only [ah,o1,o2,o4,c1,c2,c4,zq,oU,z4,z8,eq_false n0,eq_false n1,eq_false n2,eq_true n3,vcS,↓an,↓ak,simprocAttr]
     repeat' (first | exact h | intro _ | apply And.intro | (exfalso;omega))
    ·skip
     rcases Decidable.em (k=22) with n4 | n4
     ·have e:bR a k=jl a 1:=by unfold bR;rw [if_neg n0,if_neg n1,if_neg n2,if_neg n3,if_pos n4]
      rw [e] at h
      refine aq.aE FOk.nil dK (by simp [cA]) ?_
      unfold cA
      dsimp only
      simp -implicitDefEqProofs -dsimp only [ah,o1,o2,o4,c1,c2,c4,zq,oU,z4,z8,eq_false n0,eq_false n1,eq_false n2,eq_false n3,eq_true n4,vcS,↓an,↓ak,simprocAttr]
      repeat' (first | exact h | intro _ | apply And.intro | (exfalso;omega))
     ·skip
      rcases Decidable.em (k=24) with n5 | n5
      ·have e:bR a k=jl a 2:=by unfold bR;rw [if_neg n0,if_neg n1,if_neg n2,if_neg n3,if_neg n4,if_pos n5]
       rw [e] at h
       refine aq.aE FOk.nil dK (by simp [cA]) ?_
       unfold cA
       dsimp only
       simp -implicitDefEqProofs -dsimp only [ah,o1,o2,o4,c1,c2,c4,zq,oU,z4,z8,eq_false n0,eq_false n1,eq_false n2,eq_false n3,eq_false n4,eq_true n5,vcS,↓an,↓ak,simprocAttr]
       repeat' (first | exact h | intro _ | apply And.intro | (exfalso;omega))
      ·skip
       rcases Decidable.em (k=27) with n6 | n6
       ·have e:bR a k=jl a 4:=by unfold bR;rw [if_neg n0,if_neg n1,if_neg n2,if_neg n3,if_neg n4,if_neg n5,if_pos n6]
        rw [e] at h
        refine aq.aE FOk.nil dK (by simp [cA]) ?_
        unfold cA
        dsimp only
        simp -implicitDefEqProofs -dsimp only [ah,o1,o2,o4,c1,c2,c4,zq,oU,z4,z8,eq_false n0,eq_false n1,eq_false n2,eq_false n3,eq_false n4,eq_false n5,eq_true n6,vcS,↓an,↓ak,simprocAttr]
        repeat' (first | exact h | intro _ | apply And.intro | (exfalso;omega))
       ·skip
        rcases Decidable.em (30≤k∧k≤37) with n7 | n7
        ·have e:bR a k=mJ (jl a 0xf0) ((k-29)*16):=by unfold bR;rw [if_neg n0,if_neg n1,if_neg n2,if_neg n3,if_neg n4,if_neg n5,if_neg n6,if_pos n7]
         rw [e] at h
         have w1:IntKind.i64.wrap (k-29)=k-29:=aP (by omega) (by omega)
         have w2:IntKind.u16.wrap (k-29)=k-29:=CX (by omega) (by omega)
         have w3:IntKind.u16.wrap ((k-29)*2 ^ min 4 IntKind.u16.bits)=(k-29)*16:=CX (by show 0≤(k-29)*16;omega) (by show (k-29)*16≤65535;omega)
         have w4:=Dq (mR (m:=240) ha) (show 0≤(k-29)*16∧(k-29)*16≤65535 by omega)
         have q1:=n7.1
         have q2:=n7.2
         refine aq.aE FOk.nil dK (by simp [cA]) ?_
         unfold cA
         dsimp only
         simp -implicitDefEqProofs -dsimp only [ah,o1,o2,o4,c1,c2,c4,zq,oU,z4,z8,eq_false n0,eq_false n1,eq_false n2,eq_false n3,eq_false n4,eq_false n5,eq_false n6,eq_true q1,eq_true q2,w1,w2,w3,w4,vcS,↓an,↓ak,simprocAttr]
         repeat' (first | exact h | intro _ | apply And.intro | (exfalso;omega))
        ·skip
         have q7:(decide (30≤k) && decide (k≤37))=false:=by rw [Bool.and_eq_false_iff,decide_eq_false_iff_not,decide_eq_false_iff_not];omega
         rcases Decidable.em (k=39) with n8 | n8
         ·have e:bR a k=jl a 0xf0:=by unfold bR;rw [if_neg n0,if_neg n1,if_neg n2,if_neg n3,if_neg n4,if_neg n5,if_neg n6,if_neg n7,if_pos n8]
          rw [e] at h
          refine aq.aE FOk.nil dK (by simp [cA]) ?_
          unfold cA
          dsimp only
          simp -implicitDefEqProofs -dsimp only [ah,o1,o2,o4,c1,c2,c4,zq,oU,z4,z8,eq_false n0,eq_false n1,eq_false n2,eq_false n3,eq_false n4,eq_false n5,eq_false n6,q7,eq_true n8,vcS,↓an,↓ak,simprocAttr]
          repeat' (first | exact h | intro _ | apply And.intro | (exfalso;omega))
         ·skip
          rcases Decidable.em (40≤k∧k≤47) with n9 | n9
          ·have e:bR a k=mJ (jl a 0xf00) ((k-39)*256):=by unfold bR;rw [if_neg n0,if_neg n1,if_neg n2,if_neg n3,if_neg n4,if_neg n5,if_neg n6,if_neg n7,if_neg n8,if_pos n9]
           rw [e] at h
           have w1:IntKind.i64.wrap (k-39)=k-39:=aP (by omega) (by omega)
           have w2:IntKind.u16.wrap (k-39)=k-39:=CX (by omega) (by omega)
           have w3:IntKind.u16.wrap ((k-39)*2 ^ min 8 IntKind.u16.bits)=(k-39)*256:=CX (by show 0≤(k-39)*256;omega) (by show (k-39)*256≤65535;omega)
           have w4:=Dq (mR (m:=3840) ha) (show 0≤(k-39)*256∧(k-39)*256≤65535 by omega)
           have q1:=n9.1
           have q2:=n9.2
           refine aq.aE FOk.nil dK (by simp [cA]) ?_
           unfold cA
           dsimp only
           simp -implicitDefEqProofs -dsimp only [ah,o1,o2,o4,c1,c2,c4,zq,oU,z4,z8,eq_false n0,eq_false n1,eq_false n2,eq_false n3,eq_false n4,eq_false n5,eq_false n6,q7,eq_false n8,eq_true q1,eq_true q2,w1,w2,w3,w4,vcS,↓an,↓ak,simprocAttr]
           repeat' (first | exact h | intro _ | apply And.intro | (exfalso;omega))
          ·skip
           have q9:(decide (40≤k) && decide (k≤47))=false:=by rw [Bool.and_eq_false_iff,decide_eq_false_iff_not,decide_eq_false_iff_not];omega
           rcases Decidable.em (k=49) with n10 | n10
           ·have e:bR a k=jl a 0xf00:=by unfold bR;rw [if_neg n0,if_neg n1,if_neg n2,if_neg n3,if_neg n4,if_neg n5,if_neg n6,if_neg n7,if_neg n8,if_neg n9,if_pos n10]
            rw [e] at h
            refine aq.aE FOk.nil dK (by simp [cA]) ?_
            unfold cA
            dsimp only
            simp -implicitDefEqProofs -dsimp only [ah,o1,o2,o4,c1,c2,c4,zq,oU,z4,z8,eq_false n0,eq_false n1,eq_false n2,eq_false n3,eq_false n4,eq_false n5,eq_false n6,q7,eq_false n8,q9,eq_true n10,vcS,↓an,↓ak,simprocAttr]
            repeat' (first | exact h | intro _ | apply And.intro | (exfalso;omega))
           ·skip
            have e:bR a k=a:=by unfold bR;rw [if_neg n0,if_neg n1,if_neg n2,if_neg n3,if_neg n4,if_neg n5,if_neg n6,if_neg n7,if_neg n8,if_neg n9,if_neg n10]
            rw [e] at h
            refine aq.aE FOk.nil dK (by simp [cA]) ?_
            unfold cA
            dsimp only
            simp -implicitDefEqProofs -dsimp only [ah,o1,o2,o4,c1,c2,c4,zq,oU,z4,z8,eq_false n0,eq_false n1,eq_false n2,eq_false n3,eq_false n4,eq_false n5,eq_false n6,q7,eq_false n8,q9,eq_false n10,vcS,↓an,↓ak,simprocAttr]
            repeat' (first | exact h | intro _ | apply And.intro | (exfalso;omega))
theorem tP {T:aj}{s:Sc}{p:Pa}{v:DV}{K:DV→aj→Prop}(ok:aR s)(hv:aG s p v)(h:∀T' v',aA T T' []→aG (cD s) p v'→K v' T'):aq PG 114 [v] T K:=by
 obtain ⟨z1,z2,z3,k1,k2,k3,m,pr,d1,d2,d3,sv,rfl⟩:=hv
 obtain ⟨o1,o2,o3⟩:=sv.pa.one
 have hr:=ok.g.r
 have hyr:=ok.y
 have hne:T.length+1≠T.length:=by omega
 rcases Decidable.em (s.y=s.bot) with hy | hy
 ·have e:cD s={ s with wrap:=false,cells:=upF s.cells s.aa s.top s.bot 1}:=by unfold cD;rw [if_pos hy]
  rw [e] at h
  have hy':(s.y:Int)=s.bot:=by omega
  unfold scD
  refine aq.aE FOk.nil pH (by simp [l7]) ?_
  unfold l7
  dsimp only
  simp -implicitDefEqProofs -dsimp only [ah,o1,o2,o3,eq_true hy',vcS,↓an,↓ak,simprocAttr]
  refine To sv.z1 ok.g ok.tb ok.b fun T1 g1=>?_
  have hb1:=g1.at (bq T [_] (some (Ob.box _))) (by simp)
  have hb2:=g1.at (bh T [_,some (Ob.box _)] 1) (by simp)
  simp -implicitDefEqProofs -dsimp only [ah,ai hb1,ai hb2,fun y=>ai (aY hb2 y hne),o1,o2,o3,vcS,↓an,↓ak,simprocAttr]
  have kk:aA T T1 []:=(aA.app T _ []).new g1 (by simp)
  exact gK ((kk.put (Dd.ge (Nat.le_refl _)) _).put (Dd.ge (by omega)) _) fun k=>h _ _ k (aG.of (s:={ s with wrap:=false,cells:=upF s.cells s.aa s.top s.bot 1}) ⟨rfl,sv.z2,sv.z3,sv.pa⟩)
 ·have hy':¬(s.y:Int)=s.bot:=by omega
  have w1:IntKind.i64.wrap ((s.rows:Int)-1)=(s.rows:Int)-1:=aP (by omega) (by omega)
  have w2:IntKind.i64.wrap ((s.y:Int)+1)=((s.y+1:Nat):Int):=by rw [aP (by omega) (by omega)];omega
  rcases Decidable.em (s.y+1<s.rows) with hz | hz
  ·have e:cD s={ s with wrap:=false,y:=s.y+1}:=by unfold cD;rw [if_neg hy,if_pos hz]
   rw [e] at h
   have hz':(s.y:Int)<(s.rows:Int)-1:=by omega
   unfold scD
   refine aq.aE FOk.nil pH (by simp [l7]) ?_
   unfold l7
   dsimp only
   simp -implicitDefEqProofs -dsimp only [ah,o1,o2,o3,eq_false hy',w1,w2,eq_true hz',vcS,↓an,↓ak,simprocAttr]
   exact h _ _ (aA.app _ _ _) (aG.of (s:={ s with wrap:=false,y:=s.y+1}) ⟨sv.z1,sv.z2,sv.z3,sv.pa⟩)
  ·have e:cD s={ s with wrap:=false}:=by unfold cD;rw [if_neg hy,if_neg hz]
   rw [e] at h
   have hz':¬(s.y:Int)<(s.rows:Int)-1:=by omega
   unfold scD
   refine aq.aE FOk.nil pH (by simp [l7]) ?_
   unfold l7
   dsimp only
   simp -implicitDefEqProofs -dsimp only [ah,o1,o2,o3,eq_false hy',w1,w2,eq_false hz',vcS,↓an,↓ak,simprocAttr]
   exact h _ _ (aA.app _ _ _) (aG.of (s:={ s with wrap:=false}) ⟨sv.z1,sv.z2,sv.z3,sv.pa⟩)
theorem rz {T:aj}{s:Sc}{p:Pa}{v:DV}{y x:Int}{K:DV→aj→Prop}(ok:aR s)(hv:aG s p v)(h:∀T' v',aA T T' []→aG (toF s y x) p v'→K v' T'):aq PG 117 [v,.int .i64 y,.int .i64 x] T K:=by
 obtain ⟨z1,z2,z3,k1,k2,k3,m,pr,d1,d2,d3,sv,rfl⟩:=hv
 obtain ⟨o1,o2,o3⟩:=sv.pa.one
 have hr:=ok.g.r
 have hc:=ok.g.c
 have w1:IntKind.i64.wrap ((s.rows:Int)-1)=(s.rows:Int)-1:=aP (by omega) (by omega)
 have w2:IntKind.i64.wrap ((s.aa:Int)-1)=(s.aa:Int)-1:=aP (by omega) (by omega)
 have m1:min (max y 0) ((s.rows:Int)-1)=((min y.toNat (s.rows-1):Nat):Int):=by omega
 have m2:min (max x 0) ((s.aa:Int)-1)=((min x.toNat (s.aa-1):Nat):Int):=by omega
 unfold scD
 refine aq.aE FOk.nil Se (by simp [MZ]) ?_
 unfold MZ
 dsimp only
 simp -implicitDefEqProofs -dsimp only [ah,o1,o2,o3,w1,w2,m1,m2,vcS,↓an,↓ak,simprocAttr]
 exact h _ _ (aA.app _ _ _) (aG.of (s:=toF s y x) ⟨sv.z1,sv.z2,sv.z3,sv.pa⟩)
noncomputable def Aw:RC:=(.seq (SR [MV 23 8,MV 24 1,BT 25 .lss 23 24] [1,4,7,8,25] (.cond (.t 25) .skip (.ext 0))) (.seq (.blk 1 (.reg [FA 28 9 7,LD 29 28,MV 30 8,OP 31 (.aT 1 (.t 29) (.t 30)),NP (.store 1 (.t 31) (.c (.bool true)))] 0 [1,4,7,8])) (.reg [MV 26 8,BI 27 .add 26 8,MV 8 27] 0 [1,4,7,8])))
noncomputable def GB:RFn:=⟨2,33,(SR [OP 4 (.alloc [.int .i64 0,.int .i64 0,.sl 0 [] .nil,.int .i64 0,.int .i64 0,.bool false,.int .u16 0,.int .i64 0,.int .i64 0,.sl 0 [] .nil,.int .i64 0,.int .i64 0,.int .u16 0,.bool false,.bool false,.bool false,.sl 0 [] .nil,.int .i64 0,.int .i64 0,.int .i64 0,.int .u8 0,.sl 0 [] .nil,.sl 0 [] .nil,.sl 0 [] .nil]),OP 5 (.mov (.c (.int .i64 0)))] [0,1,4] (SR [MV 9 0,MV 10 1,OP 11 (.call 19 [.t 9,.t 10]),MV 6 11] [0,1,4,6] (.seq (SR [MV 12 6,OP 13 (.jw false (.t 12) (.c (.sl 0 [] .nil)))] [0,1,4,6,13] (.cond (.t 13) (SR [OP 14 (.build [.int .i64 0,.int .i64 0,.sl 0 [] .nil,.int .i64 0,.int .i64 0,.bool false,.int .u16 0,.int .i64 0,.int .i64 0,.sl 0 [] .nil,.int .i64 0,.int .i64 0,.int .u16 0,.bool false,.bool false,.bool false,.sl 0 [] .nil,.int .i64 0,.int .i64 0,.int .i64 0,.int .u8 0,.sl 0 [] .nil,.sl 0 [] .nil,.sl 0 [] .nil] []),SA 24 4 14,OP 5 (.mov (.c (.int .i64 26)))] [4,5] .ret) .skip)) (SR [MV 15 0,MV 16 1,MV 17 6,MV 18 0,BI 19 .sub 18 1,MV 20 1,OP 21 (.fO 1 1 [.bool false] (.t 20) (.t 20)),OP 22 (.build [.int .i64 0,.int .i64 0,.sl 0 [] .nil,.int .i64 0,.int .i64 0,.bool false,.int .u16 0,.int .i64 0,.int .i64 0,.sl 0 [] .nil,.int .i64 0,.int .i64 0,.int .u16 0,.bool false,.bool false,.bool false,.sl 0 [] .nil,.int .i64 0,.int .i64 0,.int .i64 0,.int .u8 0,.sl 0 [] .nil,.sl 0 [] .nil,.sl 0 [] .nil] [(0,(1,(.t 15))),(1,(1,(.t 16))),(2,(1,(.t 17))),(8,(1,(.t 19))),(13,(1,(.c (.bool true)))),(14,(1,(.c (.bool true)))),(9,(1,(.t 21)))]),OP 7 (.alloc [.int .i64 0,.int .i64 0,.sl 0 [] .nil,.int .i64 0,.int .i64 0,.bool false,.int .u16 0,.int .i64 0,.int .i64 0,.sl 0 [] .nil,.int .i64 0,.int .i64 0,.int .u16 0,.bool false,.bool false,.bool false,.sl 0 [] .nil,.int .i64 0,.int .i64 0,.int .i64 0,.int .u8 0,.sl 0 [] .nil,.sl 0 [] .nil,.sl 0 [] .nil]),SA 24 7 22] [1,4,7] (.seq (SR [OP 8 (.mov (.c (.int .i64 0)))] [1,4,7,8] (.blk 0 (.loop Aw))) (SR [LT 32 24 7,SA 24 4 32,OP 5 (.mov (.c (.int .i64 0)))] [4,5] .ret)))))),[.c 4 true 24,.t 5]⟩
theorem M3:aK PG.P [⟨0,0,[0,1,4],[]⟩,⟨1,0,[0,1,4,6],[]⟩,⟨2,0,[0,1,4,6,13],[]⟩,⟨3,0,[4,5],[]⟩,⟨4,0,[1,4,7],[]⟩,⟨5,0,[1,4,7,8],[]⟩,⟨6,0,[1,4,7,8,25],[]⟩,⟨7,0,[1,4,7,8],[]⟩,⟨8,0,[1,4,7,8],[]⟩,⟨9,0,[4,5],[]⟩] 22=some GB:=by kernel_rfl
def kr (c x:Nat):List Bool:=(List.range c).map fun i=>decide (i % 8=0∧i<x)
theorem RV (c x:Nat):(kr c x).length=c:=by simp [kr]
theorem X4 (c:Nat):kr c 0=List.replicate c false:=by
 refine List.ext_getElem (by simp [kr]) fun i h1 h2=>?_
 simp [kr]
theorem RW {c x:Nat}(h:c≤x):kr c x=lZ c:=by
 refine List.ext_getElem (by simp [kr,lZ]) fun i h1 h2=>?_
 simp only [kr,List.length_map,List.length_range] at h1
 simp only [kr,lZ,List.getElem_map,List.getElem_range,decide_eq_decide]
 omega
theorem RU {c j:Nat}(h:8*j<c):(kr c (8*j)).set (8*j) true=kr c (8*(j+1)):=by
 refine List.ext_getElem (by simp [kr]) fun i h1 h2=>?_
 simp only [kr,List.length_map,List.length_range] at h2
 rw [List.getElem_set]
 simp only [kr,List.getElem_map,List.getElem_range]
 split
 ·rename_i e;symm;rw [decide_eq_true_eq];omega
 ·rename_i e;rw [decide_eq_decide];omega
theorem Tp {T:aj}{r c:Nat}{K:DV→aj→Prop}(hr:1≤r∧r≤1000)(hc:1≤c∧c≤1000)(h:∀T' v,aA T T' []→aG (newF r c) (pa0 0) v→K (.tup [v,.int .i64 0]) T'):aq PG 22 [.int .i64 r,.int .i64 c] T K:=by
 have hrc:0<r*c:=Nat.mul_pos (by omega) (by omega)
 have w1:IntKind.i64.wrap ((r:Int)-1)=((r-1:Nat):Int):=by rw [aP (by omega) (by omega)];omega
 refine aq.fK FOk.nil M3 (by simp [GB]) ?_
 unfold GB
 dsimp only
 simp -implicitDefEqProofs -dsimp only [ah,vcS,↓an,↓ak,simprocAttr]
 refine Ij hr hc fun T1 q hq hA k1=>?_
 have hb:=k1.at (bq T [] (some (Ob.box _))) (by simp)
 have n0:(0:Int)≤c:=by omega
 have hb1:(c:Int)*1≤140737488355328∧(c:Int)≤4611686018427387904:=by omega
 simp -implicitDefEqProofs -dsimp only [ah,hrc,w1,n0,hb1,Int.le_refl,oJ,vcS,↓an,↓ak,simprocAttr]
 have e:Ds r c q T1.length=.agg [.int .i64 r,.int .i64 c,.own q 0 (r*c),.int .i64 0,.int .i64 0,.bool false,.int .u16 0,.int .i64 0,.int .i64 ((r-1:Nat):Int),.own T1.length 0 c,.int .i64 0,.int .i64 0,.int .u16 0,.bool true,.bool true,.bool false,.sl 0 [] .nil,.int .i64 0,.int .i64 0,.int .i64 0,.int .u8 0,.sl 0 [] .nil,.sl 0 [] .nil,.sl 0 [] .nil]:=by
  simp [Ds,aO,newF,dL,qI]
 have lq:=eB hA
 have kk:aA T T1 []:=(aA.app T _ []).new k1 (by simp)
 have lk1:=k1.1
 simp only [List.length_append,List.length_cons,List.length_nil] at lk1 hq
 refine bp.inv FOk.nil (S:=fun j:Nat=>⟨[(1,.int .i64 c),(4,.ptr T.length 0 0),(7,.ptr (T1.length+1) 0 0),(8,.int .i64 (8*j:Nat))],T1++ [some (.arr 1 (bn (kr c (8*j)))),some (.box [.int .i64 r,.int .i64 c,.own q 0 (r*c),.int .i64 0,.int .i64 0,.bool false,.int .u16 0,.int .i64 0,.int .i64 ((r-1:Nat):Int),.own T1.length 0 c,.int .i64 0,.int .i64 0,.int .u16 0,.bool true,.bool true,.bool false,.sl 0 [] .nil,.int .i64 0,.int .i64 0,.int .i64 0,.int .u8 0,.sl 0 [] .nil,.sl 0 [] .nil,.sl 0 [] .nil])]⟩)
  (I:=fun j=>8*j≤c+7) (μ:=fun j=>c+7-8*j) 0 (by omega) ?_ ?_
 ·simp -implicitDefEqProofs -dsimp only [ax,Nat.mul_zero,X4,vcS,↓an,↓ak,simprocAttr]
 ·intro j hj
  unfold Aw
  have hl:=RV c (8*j)
  rcases Nat.lt_or_ge (8*j) c with hx | hx
  ·have hii:((8*j:Nat):Int)<c:=by omega
   have i0:(0:Int)≤((8*j:Nat):Int):=by omega
   have w2:IntKind.i64.wrap (((8*j:Nat):Int)+8)=((8*(j+1):Nat):Int):=by rw [aP (by omega) (by omega)];omega
   have hg:=fc (L:=kr c (8*j)) (i:=8*j) (by omega)
   have cv:=iW (kr c (8*j)) (8*j) true
   rw [RU hx] at cv
   simp -implicitDefEqProofs -dsimp only [ah,hii,i0,w2,hg,cv,Nat.zero_add,ax,vcS,↓an,↓ak,simprocAttr]
   exact ⟨j+1,⟨rfl,aJ _⟩,by omega,by omega⟩
  ·have hii:¬((8*j:Nat):Int)<c:=by omega
   rw [RW hx]
   simp -implicitDefEqProofs -dsimp only [ah,ai hb,hii,vcS,↓an,↓ak,simprocAttr]
   obtain ⟨TB,eTB⟩:∃TB,TB=aO (newF r c) q T1.length (.sl 0 [] .nil) 0 0 (.sl 0 [] .nil) (.sl 0 [] .nil) (.sl 0 [] .nil):=⟨_,rfl⟩
   have e2:aO (newF r c) q T1.length (.sl 0 [] .nil) 0 0 (.sl 0 [] .nil) (.sl 0 [] .nil) (.sl 0 [] .nil)=_:=DV.agg.inj e
   have ht:(T1.set T.length (some (.box TB))++ [some (.arr 1 (bn (lZ c))),some (.box TB)])[T1.length]?=some (some (.arr 1 (bn (lZ c)))):=by
    have:=bq (T1.set T.length (some (.box TB))) [some (.box TB)] (some (Ob.arr 1 (bn (lZ c))))
    rwa [List.length_set] at this
   have kX:aA T (T1.set T.length (some (.box TB))++ [some (.arr 1 (bn (lZ c))),some (.box TB)]) []:=(kk.put (Dd.ge (Nat.le_refl _)) _).eD _
   have tz:jE T (T1.set T.length (some (.box TB))++ [some (.arr 1 (bn (lZ c))),some (.box TB)]) T.length q T1.length (newF r c) (.sl 0 [] .nil) 0 0 (.sl 0 [] .nil) (.sl 0 [] .nil) (.sl 0 [] .nil):=
    ⟨by rw [←eTB];exact gO (bX hb _) _,gO (aY hA _ (by omega)) _,ht,.inr ⟨rfl,0,.nil,rfl⟩,by omega,by omega,by omega,Dd.ge (Nat.le_refl _),Dd.ge (by omega),Dd.ge (by omega)⟩
   have pz:xE (pa0 0) 0 0 (.sl 0 [] .nil) (.sl 0 [] .nil) (.sl 0 [] .nil):={ m:=rfl,pr:=rfl,i1:=fE _ _ _,i2:=fE _ _ _,i3:=fE _ _ _,e1:=rfl,e2:=rfl,e3:=rfl}
   obtain ⟨v',T',hF,hv,kT,hl⟩:=eE.scT (n:=.i64) (x:=0) kX pz tz (uJ hr hc)
   refine ⟨by simp;omega,.tup [v',.int .i64 0],T', ?_,h T' v' kT hv⟩
   rw [eTB,e2] at hF
   exact hF
noncomputable def pI:RC:=(.seq (SR [FA 21 4 2,LD 22 21,FA 23 1 2,LD 24 23,BT 25 .lss 22 24,MV 26 25,FG 27 9 2 26 true,LG 28 27 26 true,FG 29 4 2 26 true,LG 30 29 26 true,OG 31 (.aT 1 (.t 28) (.t 30)) 26 true,LG 32 31 26 true,OG 33 (.un .not (.t 32)) 26 true,OP 34 (.pick (.t 26) (.t 33) (.c (.bool false)))] [2,4,34] (.cond (.t 34) .skip (.ext 1))) (.blk 2 (.reg [FA 35 4 2,LD 36 35,BI 37 .add 36 1,FA 38 4 2,SA 1 38 37] 0 [2,4])))
noncomputable def eC:RFn:=⟨2,57,(SR [OP 2 (.box 24 (.t 0)),OP 4 (.alloc [.int .i64 0,.int .i64 0,.sl 0 [] .nil,.int .i64 0,.int .i64 0,.bool false,.int .u16 0,.int .i64 0,.int .i64 0,.sl 0 [] .nil,.int .i64 0,.int .i64 0,.int .u16 0,.bool false,.bool false,.bool false,.sl 0 [] .nil,.int .i64 0,.int .i64 0,.int .i64 0,.int .u8 0,.sl 0 [] .nil,.sl 0 [] .nil,.sl 0 [] .nil])] [1,2,4] (.seq (SR [MV 5 1] [2,4,5] (.blk 0 (SR [OP 7 (.bin .eql (.t 5) (.c (.int .u8 8))),MV 6 7] [2,4,5,6] (.cond (.t 6) (.reg [FA 8 4 2,LD 9 8,BI 10 .sub 9 1,OP 11 (.mm true (.t 10) (.c (.int .i64 0))),FA 12 4 2,SA 1 12 11,FA 13 5 2,NP (.store 1 (.t 13) (.c (.bool false)))] 0 [2,4]) (SR [OP 15 (.bin .eql (.t 5) (.c (.int .u8 9))),MV 14 15] [2,4,5,14] (.cond (.t 14) (SR [FA 16 5 2,NP (.store 1 (.t 16) (.c (.bool false)))] [2,4] (SR [FA 17 4 2,LD 18 17,BI 19 .add 18 1,FA 20 4 2,SA 1 20 19] [2,4] (.seq (.blk 1 (.loop pI)) (.reg [FA 39 4 2,LD 40 39,FA 41 1 2,LD 42 41,BI 43 .sub 42 1,OP 44 (.mm false (.t 40) (.t 43)),FA 45 4 2,SA 1 45 44] 0 [2,4])))) (.seq (SR [OP 47 (.bin .eql (.t 5) (.c (.int .u8 10))),MV 46 47] [2,4,5,46] (.cond (.t 46) .skip (SR [OP 48 (.bin .eql (.t 5) (.c (.int .u8 11))),MV 46 48] [2,4,5,46] (.cond (.t 46) .skip (.reg [OP 49 (.bin .eql (.t 5) (.c (.int .u8 12))),MV 46 49] 0 [2,4,5,46]))))) (.cond (.t 46) (SR [LT 50 24 2,OP 51 (.call 114 [.t 50]),SA 24 4 51] [4] .ret) (SR [OP 53 (.bin .eql (.t 5) (.c (.int .u8 13))),MV 52 53] [2,4,52] (.cond (.t 52) (.reg [FA 54 4 2,NP (.store 1 (.t 54) (.c (.int .i64 0))),FA 55 5 2,NP (.store 1 (.t 55) (.c (.bool false)))] 0 [2,4]) .skip)))))))))) (SR [LT 56 24 2,SA 24 4 56] [4] .ret))),[.c 4 true 24]⟩
theorem gX:aK PG.P [⟨0,0,[1,2,4],[]⟩,⟨1,0,[2,4,5],[]⟩,⟨2,0,[2,4,5,6],[]⟩,⟨3,0,[2,4],[]⟩,⟨4,0,[2,4,5,14],[]⟩,⟨5,0,[2,4],[]⟩,⟨6,0,[2,4],[]⟩,⟨7,0,[2,4,34],[]⟩,⟨8,0,[2,4],[]⟩,⟨9,0,[2,4],[]⟩,⟨10,0,[2,4,5,46],[]⟩,⟨11,0,[2,4,5,46],[]⟩,⟨12,0,[2,4,5,46],[]⟩,⟨13,0,[4],[]⟩,⟨14,0,[2,4,52],[]⟩,⟨15,0,[2,4],[]⟩,⟨16,0,[4],[]⟩] 72=some eC:=by kernel_rfl
theorem Fc {T0 T : aj} {q n z2 z3 : Nat} {s : Sc} {p : Pa} {k2 k3 : SK} {m pr : Int} {d1 d2 d3 : DV} {K : DV → aj → Prop} (hq : T[q]? = some (some (.arr 3 (av s.cells)))) (hn : n = s.cells.length) (k : aA T0 T []) (hd : T0.length ≤ q)
    (sv : ScV s p 3 z2 z3 m pr d1 d2 d3) (h : ∀ T' v', aA T0 T' [] → aG s p v' → K v' T') :
    T0.length ≤ T.length ∧ ∃ d' T'', eE ⟨[(0, .agg [.int .i64 s.rows, .int .i64 s.aa, .own q 0 n, .int .i64 s.y, .int .i64 s.x, .bool s.wrap, .int .u16 s.attr, .int .i64 s.top, .int .i64 s.bot, .sl z2 (bn s.aU) k2,
      .int .i64 s.sy, .int .i64 s.sx, .int .u16 s.fN, .bool s.auto, .bool s.shown, .bool s.alt, .sl z3 (av s.other) k3, .int .i64 s.oy, .int .i64 s.ox, .int .i64 m, .int .u8 pr, d1, d2, d3])], T⟩ ⟨[(0, d')], T''⟩ ∧ K d' T'' := by
  subst hn
  have h1 := eE.Wq (cs := [.int .i64 s.rows, .int .i64 s.aa, .own q 0 s.cells.length, .int .i64 s.y, .int .i64 s.x, .bool s.wrap, .int .u16 s.attr, .int .i64 s.top, .int .i64 s.bot, .sl z2 (bn s.aU) k2,
      .int .i64 s.sy, .int .i64 s.sx, .int .u16 s.fN, .bool s.auto, .bool s.shown, .bool s.alt, .sl z3 (av s.other) k3, .int .i64 s.oy, .int .i64 s.ox, .int .i64 m, .int .u8 pr, d1, d2, d3]) hq
  simp only [List.map_cons, List.map_nil, uX q 3 _ _ (aH s.cells).symm, VR, gC sv.pa.i1, gC sv.pa.i2, gC sv.pa.i3, KL, BJ] at h1
  exact ⟨k.1, _, _, h1, h _ _ (k.put (Dd.ge hd) _) (aG.of (s := s) (k1 := .any) sv)⟩
theorem VU {T0 T : aj} {q n z1 z3 : Nat} {s : Sc} {p : Pa} {k1 k3 : SK} {m pr : Int} {d1 d2 d3 : DV} {K : DV → aj → Prop} (hq : T[q]? = some (some (.arr 1 (bn s.aU)))) (hn : n = s.aU.length) (k : aA T0 T []) (hd : T0.length ≤ q)
    (sv : ScV s p z1 1 z3 m pr d1 d2 d3) (h : ∀ T' v', aA T0 T' [] → aG s p v' → K v' T') :
    T0.length ≤ T.length ∧ ∃ d' T'', eE ⟨[(0, .agg [.int .i64 s.rows, .int .i64 s.aa, .sl z1 (av s.cells) k1, .int .i64 s.y, .int .i64 s.x, .bool s.wrap, .int .u16 s.attr, .int .i64 s.top, .int .i64 s.bot, .own q 0 n,
      .int .i64 s.sy, .int .i64 s.sx, .int .u16 s.fN, .bool s.auto, .bool s.shown, .bool s.alt, .sl z3 (av s.other) k3, .int .i64 s.oy, .int .i64 s.ox, .int .i64 m, .int .u8 pr, d1, d2, d3])], T⟩ ⟨[(0, d')], T''⟩ ∧ K d' T'' := by
  subst hn
  have h1 := eE.Wq (cs := [.int .i64 s.rows, .int .i64 s.aa, .sl z1 (av s.cells) k1, .int .i64 s.y, .int .i64 s.x, .bool s.wrap, .int .u16 s.attr, .int .i64 s.top, .int .i64 s.bot, .own q 0 s.aU.length,
      .int .i64 s.sy, .int .i64 s.sx, .int .u16 s.fN, .bool s.auto, .bool s.shown, .bool s.alt, .sl z3 (av s.other) k3, .int .i64 s.oy, .int .i64 s.ox, .int .i64 m, .int .u8 pr, d1, d2, d3]) hq
  simp only [List.map_cons, List.map_nil, uX q 1 _ _ (bC s.aU).symm, VR, gC sv.pa.i1, gC sv.pa.i2, gC sv.pa.i3, KL, BJ] at h1
  exact ⟨k.1, _, _, h1, h _ _ (k.put (Dd.ge hd) _) (aG.of (s := s) (k2 := .any) sv)⟩
theorem Mu {T:aj}{s:Sc}{p:Pa}{v:DV}{b:Int}{K:DV→aj→Prop}(ok:aR s)(hv:aG s p v)(h:∀T' v',aA T T' []→aG (xz s b) p v'→K v' T'):aq PG 72 [v,.int .u8 b] T K:=by
 obtain ⟨z1,z2,z3,k1,k2,k3,m,pr,d1,d2,d3,sv,rfl⟩:=hv
 obtain ⟨o1,o2,o3⟩:=sv.pa.one
 have hr:=ok.g.r
 have hc:=ok.g.c
 have hyr:=ok.y
 have hxr:=ok.x
 have hne:T.length+1≠T.length:=by omega
 unfold xz at h
 rcases Decidable.em (b=8) with b1 | b1
 ·rw [if_pos b1] at h
  have w1:max (IntKind.i64.wrap ((s.x:Int)-1)) 0=((s.x-1:Nat):Int):=by rw [aP (by omega) (by omega)];omega
  unfold scD
  refine aq.aE FOk.nil gX (by simp [eC]) ?_
  unfold eC
  dsimp only
  simp -implicitDefEqProofs -dsimp only [ah,o1,o2,o3,eq_true b1,w1,vcS,↓an,↓ak,simprocAttr]
  exact h _ _ (aA.app _ _ _) (aG.of (s:={ s with x:=s.x-1,wrap:=false}) ⟨sv.z1,sv.z2,sv.z3,sv.pa⟩)
 rw [if_neg b1] at h
 rcases Decidable.em (b=9) with b2 | b2
 ·rw [if_pos b2] at h
  have w1:IntKind.i64.wrap ((s.x:Int)+1)=((s.x+1:Nat):Int):=by rw [aP (by omega) (by omega)];omega
  have w2:IntKind.i64.wrap ((s.aa:Int)-1)=((s.aa-1:Nat):Int):=by rw [aP (by omega) (by omega)];omega
  unfold scD
  refine aq.aE FOk.nil gX (by simp [eC]) ?_
  unfold eC
  dsimp only
  simp -implicitDefEqProofs -dsimp only [ah,o1,o2,o3,eq_false b1,eq_true b2,w1,w2,vcS,↓an,↓ak,simprocAttr]
  refine bp.inv FOk.nil (S:=fun i:Nat=>⟨[(2,.ptr T.length 0 0),(4,.ptr (T.length+1) 0 0)],T++ [some (.box (scD { s with x:=i,wrap:=false} z1 z2 z3 k1 k2 k3 m pr d1 d2 d3)),some (.box kS)]⟩)
   (I:=fun i=>i≤s.aa∧min (pe s.aU s.aa s.aa i) (s.aa-1)=min (pe s.aU s.aa s.aa (s.x+1)) (s.aa-1)) (μ:=fun i=>s.aa-i) (s.x+1) ⟨by omega,rfl⟩ ?_ ?_
  ·simp -implicitDefEqProofs -dsimp only [ax,vcS,↓an,↓ak,simprocAttr]
   exact aJ _
  ·intro i ⟨hi,hn⟩
   unfold pI
   dsimp only [scD,kS]
   have i0:(0:Int)≤i:=by omega
   have m1:min (i:Int) ((s.aa-1:Nat):Int)=((min i (s.aa-1):Nat):Int):=by omega
   have w3:IntKind.i64.wrap ((i:Int)+1)=((i+1:Nat):Int):=by rw [aP (by omega) (by omega)];omega
   rcases Nat.lt_or_ge i s.aa with h1 | h1
   ·have h1':(i:Int)<(s.aa:Int):=by omega
    have h2':(i:Int)<(s.aU.length:Int):=by rw [ok.aU];omega
    have hg:=fc (L:=s.aU) (i:=i) (by rw [ok.aU];omega)
    have hz2:=sv.z2
    subst hz2
    cases h3:s.aU.getD i false with
    | true=>
     rw [h3] at hg
     simp -implicitDefEqProofs -dsimp only [ah,o1,o2,o3,i0,w2,h1',h2',hg,bC,m1,Nat.zero_add,vcS,↓an,↓ak,simprocAttr]
     rw [qJ (by simp only [h3];simp)] at hn
     rw [←hn] at h
     exact h _ _ (aA.app _ _ _) (aG.of (s:={ s with x:=min i (s.aa-1),wrap:=false}) ⟨sv.z1,rfl,sv.z3,sv.pa⟩)
    | false=>
     rw [h3] at hg
     simp -implicitDefEqProofs -dsimp only [ah,o1,o2,o3,i0,w2,w3,h1',h2',hg,bC,m1,Nat.zero_add,ax,vcS,↓an,↓ak,simprocAttr]
     refine ⟨i+1,aJ _,⟨by omega, ?_⟩,by omega⟩
     rw [←hn]
     rcases Nat.lt_or_ge (i+1) s.aa with h4 | h4
     ·rw [OD h4 h3]
     ·rw [qJ (x:=i) (by omega),qJ (x:=i+1) (by omega)];omega
   ·have h1':¬(i:Int)<(s.aa:Int):=by omega
    simp -implicitDefEqProofs -dsimp only [ah,o1,o2,o3,i0,w2,eq_false h1',m1,Nat.zero_add,vcS,↓an,↓ak,simprocAttr]
    rw [qJ (by omega)] at hn
    rw [←hn] at h
    exact h _ _ (aA.app _ _ _) (aG.of (s:={ s with x:=min i (s.aa-1),wrap:=false}) ⟨sv.z1,sv.z2,sv.z3,sv.pa⟩)
 rw [if_neg b2] at h
 rcases Decidable.em (b=10∨b=11∨b=12) with b3 | b3
 ·rw [if_pos b3] at h
  rcases b3 with rfl | rfl | rfl
  all_goals
   unfold scD
   refine aq.aE FOk.nil gX (by simp [eC]) ?_
   unfold eC
   dsimp only
   simp -implicitDefEqProofs -dsimp only [ah,o1,o2,o3,vcS,↓an,↓ak,simprocAttr]
   refine tP (s:=s) ok (aG.of sv) fun T1 v' g1 hv'=>?_
   obtain ⟨y1,y2,y3,j1,j2,j3,m',pr',e1,e2,e3,sv',rfl⟩:=hv'
   obtain ⟨p1,p2,p3⟩:=sv'.pa.one
   unfold scD
   have hb1:=g1.at (bq T [_] (some (Ob.box _))) (by simp)
   have hb2:=g1.at (bh T [_,some (Ob.box _)] 1) (by simp)
   simp -implicitDefEqProofs -dsimp only [ah,ai hb1,ai hb2,p1,p2,p3,vcS,↓an,↓ak,simprocAttr]
   have kk:aA T T1 []:=(aA.app T _ []).new g1 (by simp)
   exact gK (kk.put (Dd.ge (by omega)) _) fun k=>h _ _ k (aG.of (s:=cD s) sv')
 rw [if_neg b3] at h
 have b31:¬b=10:=by omega
 have b32:¬b=11:=by omega
 have b33:¬b=12:=by omega
 rcases Decidable.em (b=13) with b4 | b4
 ·rw [if_pos b4] at h
  unfold scD
  refine aq.aE FOk.nil gX (by simp [eC]) ?_
  unfold eC
  dsimp only
  simp -implicitDefEqProofs -dsimp only [ah,o1,o2,o3,eq_false b1,eq_false b2,eq_false b31,eq_false b32,eq_false b33,eq_true b4,vcS,↓an,↓ak,simprocAttr]
  exact h _ _ (aA.app _ _ _) (aG.of (s:={ s with x:=0,wrap:=false}) ⟨sv.z1,sv.z2,sv.z3,sv.pa⟩)
 ·rw [if_neg b4] at h
  unfold scD
  refine aq.aE FOk.nil gX (by simp [eC]) ?_
  unfold eC
  dsimp only
  simp -implicitDefEqProofs -dsimp only [ah,o1,o2,o3,eq_false b1,eq_false b2,eq_false b31,eq_false b32,eq_false b33,eq_false b4,vcS,↓an,↓ak,simprocAttr]
  exact h _ _ (aA.app _ _ _) (aG.of (s:=s) sv)
noncomputable def bY:RFn:=⟨2,85,(SR [OP 2 (.box 24 (.t 0)),OP 4 (.alloc [.int .i64 0,.int .i64 0,.sl 0 [] .nil,.int .i64 0,.int .i64 0,.bool false,.int .u16 0,.int .i64 0,.int .i64 0,.sl 0 [] .nil,.int .i64 0,.int .i64 0,.int .u16 0,.bool false,.bool false,.bool false,.sl 0 [] .nil,.int .i64 0,.int .i64 0,.int .i64 0,.int .u8 0,.sl 0 [] .nil,.sl 0 [] .nil,.sl 0 [] .nil])] [1,2,4] (.seq (SR [MV 5 1] [2,4,5] (.blk 0 (SR [OP 7 (.bin .eql (.t 5) (.c (.int .u8 55))),MV 6 7] [2,4,5,6] (.cond (.t 6) (.reg [FA 8 3 2,LD 9 8,FA 10 4 2,LD 11 10,FA 12 6 2,LD 13 12,FA 14 10 2,SA 1 14 9,FA 15 11 2,SA 1 15 11,FA 16 12 2,SA 1 16 13] 0 [2,4]) (SR [OP 18 (.bin .eql (.t 5) (.c (.int .u8 56))),MV 17 18] [2,4,5,17] (.cond (.t 17) (.reg [FA 19 10 2,LD 20 19,FA 21 11 2,LD 22 21,FA 23 12 2,LD 24 23,FA 25 3 2,SA 1 25 20,FA 26 4 2,SA 1 26 22,FA 27 6 2,SA 1 27 24,FA 28 5 2,NP (.store 1 (.t 28) (.c (.bool false)))] 0 [2,4]) (SR [OP 30 (.bin .eql (.t 5) (.c (.int .u8 68))),MV 29 30] [2,4,5,29] (.cond (.t 29) (SR [LT 31 24 2,OP 32 (.call 114 [.t 31]),SA 24 4 32] [4] .ret) (SR [OP 34 (.bin .eql (.t 5) (.c (.int .u8 69))),MV 33 34] [2,4,5,33] (.cond (.t 33) (SR [LT 35 24 2,OP 36 (.call 114 [.t 35]),SA 24 2 36] [2,4] (.reg [FA 37 4 2,NP (.store 1 (.t 37) (.c (.int .i64 0)))] 0 [2,4])) (SR [OP 39 (.bin .eql (.t 5) (.c (.int .u8 77))),MV 38 39] [2,4,5,38] (.cond (.t 38) (SR [FA 40 5 2,NP (.store 1 (.t 40) (.c (.bool false)))] [2,4] (SR [FA 41 3 2,LD 42 41,FA 43 7 2,LD 44 43,BT 45 .eql 42 44] [2,4,45] (.cond (.t 45) (.reg [FA 46 2 2,LD 47 46,FA 48 1 2,LD 49 48,FA 50 7 2,LD 51 50,FA 52 8 2,LD 53 52,OP 54 (.call 115 [.t 47,.t 49,.t 51,.t 53,.c (.int .i64 1)]),FA 55 2 2,SA 1 55 54] 0 [2,4]) (SR [FA 56 3 2,LD 57 56,BI 58 .gtr 57 0] [2,4,58] (.cond (.t 58) (.reg [FA 59 3 2,LD 60 59,BI 61 .sub 60 1,FA 62 3 2,SA 1 62 61] 0 [2,4]) .skip))))) (SR [OP 64 (.bin .eql (.t 5) (.c (.int .u8 72))),MV 63 64] [2,4,5,63] (.cond (.t 63) (SR [FA 65 9 2,LD 66 65,OP 67 (.append 1 1 (.c (.sl 0 [] .nil)) (.t 66)),FA 68 9 2,SA 1 68 67] [2,4] (.reg [FA 69 9 2,LD 70 69,FA 71 4 2,LD 72 71,OP 73 (.aT 1 (.t 70) (.t 72)),NP (.store 1 (.t 73) (.c (.bool true)))] 0 [2,4])) (SR [OP 75 (.bin .eql (.t 5) (.c (.int .u8 99))),MV 74 75] [2,4,74] (.cond (.t 74) (.reg [FA 77 0 2,LD 78 77,FA 79 1 2,LD 80 79,OP 81 (.call 22 [.t 78,.t 80]),MV 76 81,OP 82 (.ext (.t 76) 0),OP 83 (.ext (.t 76) 1),SA 24 2 82] 0 [2,4]) .skip)))))))))))))))) (SR [LT 84 24 2,SA 24 4 84] [4] .ret))),[.c 4 true 24]⟩
theorem dB:aK PG.P [⟨0,0,[1,2,4],[]⟩,⟨1,0,[2,4,5],[]⟩,⟨2,0,[2,4,5,6],[]⟩,⟨3,0,[2,4],[]⟩,⟨4,0,[2,4,5,17],[]⟩,⟨5,0,[2,4],[]⟩,⟨6,0,[2,4,5,29],[]⟩,⟨7,0,[4],[]⟩,⟨8,0,[2,4,5,33],[]⟩,⟨9,0,[2,4],[]⟩,⟨10,0,[2,4],[]⟩,⟨11,0,[2,4,5,38],[]⟩,⟨12,0,[2,4],[]⟩,⟨13,0,[2,4,45],[]⟩,⟨14,0,[2,4],[]⟩,⟨15,0,[2,4,58],[]⟩,⟨16,0,[2,4],[]⟩,⟨17,0,[2,4,5,63],[]⟩,⟨18,0,[2,4],[]⟩,⟨19,0,[2,4],[]⟩,⟨20,0,[2,4,74],[]⟩,⟨21,0,[2,4],[]⟩,⟨22,0,[4],[]⟩] 73=some bY:=by kernel_rfl
noncomputable def e8:RFn:=⟨3,71,(SR [OP 3 (.box 24 (.t 0)),OP 6 (.alloc [.int .i64 0,.int .i64 0,.sl 0 [] .nil,.int .i64 0,.int .i64 0,.bool false,.int .u16 0,.int .i64 0,.int .i64 0,.sl 0 [] .nil,.int .i64 0,.int .i64 0,.int .u16 0,.bool false,.bool false,.bool false,.sl 0 [] .nil,.int .i64 0,.int .i64 0,.int .i64 0,.int .u8 0,.sl 0 [] .nil,.sl 0 [] .nil,.sl 0 [] .nil])] [1,2,3,6] (.seq (.blk 0 (SR [MV 8 1,BI 9 .eql 8 7,MV 7 9] [1,2,3,6,7] (.cond (.t 7) (.reg [MV 10 2,FA 11 13 3,SA 1 11 10] 0 [3,6]) (SR [MV 13 1,BI 14 .eql 13 25,MV 12 14] [1,2,3,6,12] (.cond (.t 12) (.reg [MV 15 2,FA 16 14 3,SA 1 16 15] 0 [3,6]) (SR [MV 18 1,BI 19 .eql 18 1049,MV 20 19,MG 21 2 20 true,OP 22 (.pick (.t 20) (.t 21) (.c (.bool false))),MV 23 22,FG 24 15 3 23 true,LG 25 24 23 true,OG 26 (.un .not (.t 25)) 23 true,OP 27 (.pick (.t 23) (.t 26) (.c (.bool false))),MV 17 27] [1,2,3,6,17] (.cond (.t 17) (SR [FA 28 2 3,LD 29 28,FA 30 3 3,LD 31 30,FA 32 4 3,LD 33 32,FA 34 16 3,SA 1 34 29,FA 35 17 3,SA 1 35 31,FA 36 18 3,SA 1 36 33,FA 37 15 3,NP (.store 1 (.t 37) (.c (.bool true))),FA 38 5 3,NP (.store 1 (.t 38) (.c (.bool false)))] [3,6] (.reg [FA 39 0 3,LD 40 39,FA 41 1 3,LD 42 41,OP 43 (.call 19 [.t 40,.t 42]),FA 44 2 3,SA 1 44 43] 0 [3,6])) (SR [MV 46 1,BI 47 .eql 46 1049,MV 48 47,MG 49 2 48 true,OG 50 (.un .not (.t 49)) 48 true,OP 51 (.pick (.t 48) (.t 50) (.c (.bool false))),MV 52 51,FG 53 15 3 52 true,LG 54 53 52 true,OP 55 (.pick (.t 52) (.t 54) (.c (.bool false))),MV 45 55] [3,6,45] (.cond (.t 45) (SR [FA 56 16 3,LD 57 56,FA 58 17 3,LD 59 58,FA 60 18 3,LD 61 60,FA 62 2 3,SA 1 62 57,FA 63 3 3,SA 1 63 59,FA 64 4 3,SA 1 64 61,FA 65 15 3,NP (.store 1 (.t 65) (.c (.bool false))),FA 66 5 3,NP (.store 1 (.t 66) (.c (.bool false)))] [3,6] (.reg [FA 67 16 3,NP (.store 1 (.t 67) (.c (.sl 0 [] .nil))),FA 68 17 3,NP (.store 1 (.t 68) (.c (.int .i64 0))),FA 69 18 3,NP (.store 1 (.t 69) (.c (.int .i64 0)))] 0 [3,6])) .skip))))))))) (SR [LT 70 24 3,SA 24 6 70] [6] .ret))),[.c 6 true 24]⟩
theorem gW:aK PG.P [⟨0,0,[1,2,3,6],[]⟩,⟨1,0,[1,2,3,6,7],[]⟩,⟨2,0,[3,6],[]⟩,⟨3,0,[1,2,3,6,12],[]⟩,⟨4,0,[3,6],[]⟩,⟨5,0,[1,2,3,6,17],[]⟩,⟨6,0,[3,6],[]⟩,⟨7,0,[3,6],[]⟩,⟨8,0,[3,6,45],[]⟩,⟨9,0,[3,6],[]⟩,⟨10,0,[3,6],[]⟩,⟨11,0,[6],[]⟩] 74=some e8:=by kernel_rfl
theorem FT {L:List Bool}(h:0<L.length):¬bn L=[]:=by cases L with | nil=>simp at h | cons a l=>simp [bn]
theorem Rr {T:aj}{s:Sc}{p:Pa}{v:DV}{b:Int}{K:DV→aj→Prop}(ok:aR s)(hv:aG s p v)(h:∀T' v',aA T T' []→aG (jD s b) (mq b p) v'→K v' T'):aq PG 73 [v,.int .u8 b] T K:=by
 obtain ⟨z1,z2,z3,k1,k2,k3,m,pr,d1,d2,d3,sv,rfl⟩:=hv
 obtain ⟨o1,o2,o3⟩:=sv.pa.one
 have hr:=ok.g.r
 have hc:=ok.g.c
 have hyr:=ok.y
 have hxr:=ok.x
 have hne:T.length+1≠T.length:=by omega
 unfold jD mq at h
 rcases Decidable.em (b=55) with b1 | b1
 ·rw [if_pos b1,if_neg (show ¬b=99 by omega)] at h
  unfold scD
  refine aq.aE FOk.nil dB (by simp [bY]) ?_
  unfold bY
  dsimp only
  simp -implicitDefEqProofs -dsimp only [ah,o1,o2,o3,eq_true b1,vcS,↓an,↓ak,simprocAttr]
  exact h _ _ (aA.app _ _ _) (aG.of (s:={ s with sy:=s.y,sx:=s.x,fN:=s.attr}) ⟨sv.z1,sv.z2,sv.z3,sv.pa⟩)
 rw [if_neg b1] at h
 rcases Decidable.em (b=56) with b2 | b2
 ·rw [if_pos b2,if_neg (show ¬b=99 by omega)] at h
  unfold scD
  refine aq.aE FOk.nil dB (by simp [bY]) ?_
  unfold bY
  dsimp only
  simp -implicitDefEqProofs -dsimp only [ah,o1,o2,o3,eq_false b1,eq_true b2,vcS,↓an,↓ak,simprocAttr]
  exact h _ _ (aA.app _ _ _) (aG.of (s:={ s with y:=s.sy,x:=s.sx,attr:=s.fN,wrap:=false}) ⟨sv.z1,sv.z2,sv.z3,sv.pa⟩)
 rw [if_neg b2] at h
 rcases Decidable.em (b=68) with b3 | b3
 ·rw [if_pos b3,if_neg (show ¬b=99 by omega)] at h
  unfold scD
  refine aq.aE FOk.nil dB (by simp [bY]) ?_
  unfold bY
  dsimp only
  simp -implicitDefEqProofs -dsimp only [ah,o1,o2,o3,eq_false b1,eq_false b2,eq_true b3,vcS,↓an,↓ak,simprocAttr]
  refine tP (s:=s) ok (aG.of sv) fun T1 v' g1 hv'=>?_
  obtain ⟨y1,y2,y3,j1,j2,j3,m',pr',e1,e2,e3,sv',rfl⟩:=hv'
  obtain ⟨p1,p2,p3⟩:=sv'.pa.one
  unfold scD
  have hb1:=g1.at (bq T [_] (some (Ob.box _))) (by simp)
  have hb2:=g1.at (bh T [_,some (Ob.box _)] 1) (by simp)
  simp -implicitDefEqProofs -dsimp only [ah,ai hb1,ai hb2,p1,p2,p3,vcS,↓an,↓ak,simprocAttr]
  have kk:aA T T1 []:=(aA.app T _ []).new g1 (by simp)
  have kf:=kk.put (o:=T.length+1) (Dd.ge (by omega))
  exact gK (kf _) fun k=>h _ _ k (aG.of (s:=cD s) sv')
 rw [if_neg b3] at h
 rcases Decidable.em (b=69) with b4 | b4
 ·rw [if_pos b4,if_neg (show ¬b=99 by omega)] at h
  unfold scD
  refine aq.aE FOk.nil dB (by simp [bY]) ?_
  unfold bY
  dsimp only
  simp -implicitDefEqProofs -dsimp only [ah,o1,o2,o3,eq_false b1,eq_false b2,eq_false b3,eq_true b4,vcS,↓an,↓ak,simprocAttr]
  refine tP (s:=s) ok (aG.of sv) fun T1 v' g1 hv'=>?_
  obtain ⟨y1,y2,y3,j1,j2,j3,m',pr',e1,e2,e3,sv',rfl⟩:=hv'
  obtain ⟨p1,p2,p3⟩:=sv'.pa.one
  unfold scD
  have hb1:=g1.at (bq T [_] (some (Ob.box _))) (by simp)
  have hb2:=g1.at (bh T [_,some (Ob.box _)] 1) (by simp)
  simp -implicitDefEqProofs -dsimp only [ah,ai hb1,ai hb2,fun y=>ai (aY hb2 y hne),p1,p2,p3,List.set_set,vcS,↓an,↓ak,simprocAttr]
  have kk:aA T T1 []:=(aA.app T _ []).new g1 (by simp)
  have kf:=fun x y=>(kk.put (o:=T.length) (Dd.ge (Nat.le_refl _)) x).put (o:=T.length+1) (Dd.ge (by omega)) y
  exact gK (kf _ _) fun k=>h _ _ k (aG.of (s:={ cD s with x:=0}) ⟨sv'.z1,sv'.z2,sv'.z3,sv'.pa⟩)
 rw [if_neg b4] at h
 rcases Decidable.em (b=77) with b5 | b5
 ·rw [if_pos b5,if_neg (show ¬b=99 by omega)] at h
  rcases Decidable.em (s.y=s.top) with hy | hy
  ·rw [if_pos hy] at h
   have hy':(s.y:Int)=s.top:=by omega
   unfold scD
   refine aq.aE FOk.nil dB (by simp [bY]) ?_
   unfold bY
   dsimp only
   simp -implicitDefEqProofs -dsimp only [ah,o1,o2,o3,eq_false b1,eq_false b2,eq_false b3,eq_false b4,eq_true b5,eq_true hy',vcS,↓an,↓ak,simprocAttr]
   refine Gi sv.z1 ok.g ok.tb ok.b fun T1 g1=>?_
   have hb1:=g1.at (bq T [_] (some (Ob.box _))) (by simp)
   have hb2:=g1.at (bh T [_,some (Ob.box _)] 1) (by simp)
   simp -implicitDefEqProofs -dsimp only [ah,ai hb1,ai hb2,fun y=>ai (aY hb2 y hne),o1,o2,o3,vcS,↓an,↓ak,simprocAttr]
   have kk:aA T T1 []:=(aA.app T _ []).new g1 (by simp)
   have kf:=fun x y=>(kk.put (o:=T.length) (Dd.ge (Nat.le_refl _)) x).put (o:=T.length+1) (Dd.ge (by omega)) y
   exact gK (kf _ _) fun k=>h _ _ k (aG.of (s:={ s with wrap:=false,cells:=dnF s.cells s.aa s.top s.bot 1}) ⟨rfl,sv.z2,sv.z3,sv.pa⟩)
  ·rw [if_neg hy] at h
   have hy':¬(s.y:Int)=s.top:=by omega
   have w1:IntKind.i64.wrap ((s.y:Int)-1)=(s.y:Int)-1:=aP (by omega) (by omega)
   rcases Nat.eq_zero_or_pos s.y with h0 | h0
   ·have h0':¬(0:Int)<s.y:=by omega
    unfold scD
    refine aq.aE FOk.nil dB (by simp [bY]) ?_
    unfold bY
    dsimp only
    simp -implicitDefEqProofs -dsimp only [ah,o1,o2,o3,eq_false b1,eq_false b2,eq_false b3,eq_false b4,eq_true b5,eq_false hy',eq_false h0',vcS,↓an,↓ak,simprocAttr]
    have e:(s.y:Int)=((s.y-1:Nat):Int):=by omega
    rw [e]
    exact h _ _ (aA.app _ _ _) (aG.of (s:={ s with wrap:=false,y:=s.y-1}) ⟨sv.z1,sv.z2,sv.z3,sv.pa⟩)
   ·have h0':(0:Int)<s.y:=by omega
    have w1:IntKind.i64.wrap ((s.y:Int)-1)=((s.y-1:Nat):Int):=by rw [aP (by omega) (by omega)];omega
    unfold scD
    refine aq.aE FOk.nil dB (by simp [bY]) ?_
    unfold bY
    dsimp only
    simp -implicitDefEqProofs -dsimp only [ah,o1,o2,o3,eq_false b1,eq_false b2,eq_false b3,eq_false b4,eq_true b5,eq_false hy',eq_true h0',w1,vcS,↓an,↓ak,simprocAttr]
    exact h _ _ (aA.app _ _ _) (aG.of (s:={ s with wrap:=false,y:=s.y-1}) ⟨sv.z1,sv.z2,sv.z3,sv.pa⟩)
 rw [if_neg b5] at h
 rcases Decidable.em (b=72) with b6 | b6
 ·rw [if_pos b6,if_neg (show ¬b=99 by omega)] at h
  have hz2:=sv.z2
  subst hz2
  have ht:=ok.aU
  have tn:=FT (L:=s.aU) (by omega)
  have tl:s.aU.length≤1000000:=by omega
  have h2':(s.x:Int)<(s.aU.length:Int):=by omega
  have i0:(0:Int)≤s.x:=by omega
  have hg:=fc (L:=s.aU) (i:=s.x) (by omega)
  have cv:=iW s.aU s.x true
  unfold scD
  refine aq.fK FOk.nil dB (by simp [bY]) ?_
  unfold bY
  dsimp only
  simp -implicitDefEqProofs -dsimp only [ah,o1,o2,o3,eq_false b1,eq_false b2,eq_false b3,eq_false b4,eq_false b5,eq_true b6,bC,tn,tl,eq_true (nO s.aU),h2',i0,hg,cv,Nat.zero_add,vcS,↓an,↓ak,simprocAttr]
  exact ⟨by omega,(VU (s:={ s with aU:=s.aU.set s.x true}) (q:=T.length+2) (n:=s.aU.length) (bh T [_,_,_] 2) (by simp) (aA.app T _ []) (by omega) ⟨sv.z1,rfl,sv.z3,sv.pa⟩ h).2⟩
 rw [if_neg b6] at h
 rcases Decidable.em (b=99) with b7 | b7
 ·rw [if_pos b7,if_pos b7] at h
  unfold scD
  refine aq.aE FOk.nil dB (by simp [bY]) ?_
  unfold bY
  dsimp only
  simp -implicitDefEqProofs -dsimp only [ah,o1,o2,o3,eq_false b1,eq_false b2,eq_false b3,eq_false b4,eq_false b5,eq_false b6,eq_true b7,vcS,↓an,↓ak,simprocAttr]
  refine Tp ok.g.r ok.g.c fun T1 v' g1 hv'=>?_
  obtain ⟨y1,y2,y3,j1,j2,j3,m',pr',e1,e2,e3,sv',rfl⟩:=hv'
  obtain ⟨p1,p2,p3⟩:=sv'.pa.one
  unfold scD
  have hb1:=g1.at (bq T [_] (some (Ob.box _))) (by simp)
  have hb2:=g1.at (bh T [_,some (Ob.box _)] 1) (by simp)
  simp -implicitDefEqProofs -dsimp only [ah,ai hb1,ai hb2,fun y=>ai (aY hb2 y hne),p1,p2,p3,List.set_set,vcS,↓an,↓ak,simprocAttr]
  have kk:aA T T1 []:=(aA.app T _ []).new g1 (by simp)
  have kf:=fun x y=>(kk.put (o:=T.length) (Dd.ge (Nat.le_refl _)) x).put (o:=T.length+1) (Dd.ge (by omega)) y
  exact gK (kf _ _) fun k=>h _ _ k (aG.of (s:=newF s.rows s.aa) sv')
 ·rw [if_neg b7,if_neg b7] at h
  unfold scD
  refine aq.aE FOk.nil dB (by simp [bY]) ?_
  unfold bY
  dsimp only
  simp -implicitDefEqProofs -dsimp only [ah,o1,o2,o3,eq_false b1,eq_false b2,eq_false b3,eq_false b4,eq_false b5,eq_false b6,eq_false b7,vcS,↓an,↓ak,simprocAttr]
  exact h _ _ (aA.app _ _ _) (aG.of (s:=s) sv)
theorem Of {T:aj}{s:Sc}{p:Pa}{v:DV}{k:Int}{on:Bool}{K:DV→aj→Prop}(ok:aR s)(hv:aG s p v)(h:∀T' v',aA T T' []→aG (dZ on s k) p v'→K v' T'):aq PG 74 [v,.int .i64 k,.bool on] T K:=by
 obtain ⟨z1,z2,z3,k1,k2,k3,m,pr,d1,d2,d3,sv,rfl⟩:=hv
 obtain ⟨o1,o2,o3⟩:=sv.pa.one
 have hr:=ok.g.r
 have hc:=ok.g.c
 have hyr:=ok.y
 have hxr:=ok.x
 have hne:T.length+1≠T.length:=by omega
 unfold dZ at h
 rcases Decidable.em (k=7) with b1 | b1
 ·rw [if_pos b1] at h
  unfold scD
  refine aq.aE FOk.nil gW (by simp [e8]) ?_
  unfold e8
  dsimp only
  simp -implicitDefEqProofs -dsimp only [ah,o1,o2,o3,eq_true b1,vcS,↓an,↓ak,simprocAttr]
  exact h _ _ (aA.app _ _ _) (aG.of (s:={ s with auto:=on}) ⟨sv.z1,sv.z2,sv.z3,sv.pa⟩)
 rw [if_neg b1] at h
 rcases Decidable.em (k=25) with b2 | b2
 ·rw [if_pos b2] at h
  unfold scD
  refine aq.aE FOk.nil gW (by simp [e8]) ?_
  unfold e8
  dsimp only
  simp -implicitDefEqProofs -dsimp only [ah,o1,o2,o3,eq_false b1,eq_true b2,vcS,↓an,↓ak,simprocAttr]
  exact h _ _ (aA.app _ _ _) (aG.of (s:={ s with shown:=on}) ⟨sv.z1,sv.z2,sv.z3,sv.pa⟩)
 rw [if_neg b2] at h
 rcases Decidable.em (k=1049) with b3 | b3
 ·cases hon:on with
  | true=>
   cases hal:s.alt with
   | false=>
    rw [hon,if_pos ⟨b3,rfl,hal⟩] at h
    have hrc:s.rows*s.aa=(dL s.rows s.aa).length:=by simp [dL]
    unfold scD
    refine aq.fK FOk.nil gW (by simp [e8]) ?_
    unfold e8
    dsimp only
    simp -implicitDefEqProofs -dsimp only [ah,o1,o2,o3,eq_false b1,eq_false b2,eq_true b3,hal,vcS,↓an,↓ak,simprocAttr]
    refine Ij hr hc fun T1 q hq hA g1=>?_
    have hb1:=g1.at (bq T [_] (some (Ob.box _))) (by simp)
    have hb2:=g1.at (bh T [_,some (Ob.box _)] 1) (by simp)
    simp -implicitDefEqProofs -dsimp only [ah,ai hb1,ai hb2,fun y=>ai (aY hb2 y hne),o1,o2,o3,List.set_set,vcS,↓an,↓ak,simprocAttr]
    have kk:aA T T1 []:=(aA.app T _ []).new g1 (by simp)
    have kf:=fun x y=>(kk.put (o:=T.length) (Dd.ge (Nat.le_refl _)) x).put (o:=T.length+1) (Dd.ge (by omega)) y
    have lq:=eB hA
    simp only [List.length_append,List.length_cons,List.length_nil] at hq
    have hA':=fun x y=>aY (aY hA (some (Ob.box x)) (show q≠T.length by omega)) (some (Ob.box y)) (show q≠T.length+1 by omega)
    exact Fc (s:={ s with other:=s.cells,oy:=s.y,ox:=s.x,alt:=true,wrap:=false,cells:=dL s.rows s.aa}) (hA' _ _) hrc (kf _ _) (by omega) ⟨rfl,sv.z2,.inl sv.z1,sv.pa⟩ h
   | true=>
    rw [hon,if_neg (by rw [hal];simp),if_neg (by simp)] at h
    unfold scD
    refine aq.aE FOk.nil gW (by simp [e8]) ?_
    unfold e8
    dsimp only
    simp -implicitDefEqProofs -dsimp only [ah,o1,o2,o3,eq_false b1,eq_false b2,eq_true b3,hal,vcS,↓an,↓ak,simprocAttr]
    rw [←hal]
    exact h _ _ (aA.app _ _ _) (aG.of (s:=s) sv)
  | false=>
   cases hal:s.alt with
   | true=>
    rw [hon,if_neg (by simp),if_pos ⟨b3,rfl,hal⟩] at h
    have z33:z3=3:=by
     rcases sv.z3 with e | e
     ·exact e
     ·exfalso
      have:=(ok.alt hal).lim.2
      rw [e] at this
      simp at this
    unfold scD
    refine aq.aE FOk.nil gW (by simp [e8]) ?_
    unfold e8
    dsimp only
    simp -implicitDefEqProofs -dsimp only [ah,o1,o2,o3,eq_false b1,eq_false b2,eq_true b3,hal,vcS,↓an,↓ak,simprocAttr]
    exact h _ _ (aA.app _ _ _) (aG.of (s:={ s with cells:=s.other,y:=s.oy,x:=s.ox,alt:=false,wrap:=false,other:=[],oy:=0,ox:=0}) ⟨z33,sv.z2,.inr rfl,sv.pa⟩)
   | false=>
    rw [hon,if_neg (by simp),if_neg (by rw [hal];simp)] at h
    unfold scD
    refine aq.aE FOk.nil gW (by simp [e8]) ?_
    unfold e8
    dsimp only
    simp -implicitDefEqProofs -dsimp only [ah,o1,o2,o3,eq_false b1,eq_false b2,eq_true b3,hal,vcS,↓an,↓ak,simprocAttr]
    rw [←hal]
    exact h _ _ (aA.app _ _ _) (aG.of (s:=s) sv)
 ·rw [if_neg (fun e=>b3 e.1),if_neg (fun e=>b3 e.1)] at h
  unfold scD
  refine aq.aE FOk.nil gW (by simp [e8]) ?_
  unfold e8
  dsimp only
  simp -implicitDefEqProofs -dsimp only [ah,o1,o2,o3,eq_false b1,eq_false b2,eq_false b3,vcS,↓an,↓ak,simprocAttr]
  exact h _ _ (aA.app _ _ _) (aG.of (s:=s) sv)
end Go.Proofs.YtjmnbpilnneonaaGreatDoor
