/- Texts R8, R9, R10, R11 in one. -/
import Derived.Test.YtjmnbpilnneonaaGreatDoorND
import Derived.Test.YtjmnbpilnneonaaGreatDoorN7
import Derived.Test.YtjmnbpilnneonaaGreatDoorNB
import Derived.Test.YtjmnbpilnneonaaGreatDoorN4
set_option linter.unusedVariables false
set_option linter.unusedSimpArgs false
set_option maxRecDepth 10000
namespace Go.Proofs.YtjmnbpilnneonaaGreatDoor
open Go.RowKit
noncomputable section
variable {T:ay}{p:Pa}{s:Sc}{K:DV->ay->Prop}{v d1 d2 d3:DV}{m pr:Int}
def kN:RFn:=⟨1,30,(SR [OP 1 (.box 24 (.t 0)),OP 2 (.alloc ZS)] [1,2] (SR [FA 3 5 1,NP (.store 1 (.t 3) (.c (.bool false)))] [1,2] (.seq (SR [FA 4 3 1,LD 5 4,FA 6 8 1,LD 7 6,BT 8 .eql 5 7] [1,2,8] (.cond (.t 8) (.reg [FA 9 2 1,LD 10 9,FA 11 1 1,LD 12 11,FA 13 7 1,LD 14 13,FA 15 8 1,LD 16 15,OP 17 (.call 119 [.t 10,.t 12,.t 14,.t 16,.c (.int .i64 1)]),FA 18 2 1,SA 1 18 17] 0 [1,2]) (SR [FA 19 3 1,LD 20 19,FA 21 0 1,LD 22 21,BI 23 .sub 22 1,BT 24 .lss 20 23] [1,2,24] (.cond (.t 24) (.reg [FA 25 3 1,LD 26 25,BI 27 .add 26 1,FA 28 3 1,SA 1 28 27] 0 [1,2]) .skip)))) (SR [LT 29 24 1,SA 24 2 29] [2] .ret)))),[.c 2 true 24]⟩
theorem qs:aK PG.P (aA PG.P 114 kN) 114=some kN:=by kernel_rfl
def Ec:RFn:=⟨3,23,(SR [OP 3 (.box 24 (.t 0)),OP 6 (.alloc ZS)] [1,2,3,6] (SR [MV 7 1,OP 8 (.mm true (.t 7) (.c (.int .i64 0))),FA 9 0 3,LD 10 9,BI 11 .sub 10 1,OP 12 (.mm false (.t 8) (.t 11)),MV 13 2,OP 14 (.mm true (.t 13) (.c (.int .i64 0))),FA 15 1 3,LD 16 15,BI 17 .sub 16 1,OP 18 (.mm false (.t 14) (.t 17)),FA 19 3 3,SA 1 19 12,FA 20 4 3,SA 1 20 18,FA 21 5 3,NP (.store 1 (.t 21) (.c (.bool false)))] [3,6] (SR [LT 22 24 3,SA 24 6 22] [6] .ret))),[.c 6 true 24]⟩
theorem NO:aK PG.P (aA PG.P 117 Ec) 117=some Ec:=by kernel_rfl
theorem aJ.of {z1 z2 z3:Nat}{k1 k2 k3:SK}(h:ScV s p z1 z2 z3 m pr d1 d2 d3):aJ s p (.agg (scD s z1 z2 z3 k1 k2 k3 m pr d1 d2 d3)):=⟨z1,z2,z3,k1,k2,k3,m,pr,d1,d2,d3,h,rfl⟩
theorem gI {T':ay}{d:DV}(k:ax T T' [])(h:ax T T' []->K d T'):T.length<=T'.length/\K d T':=⟨k.1,h k⟩
theorem xH.one (h:xH p m pr d1 d2 d3):DV.one d1=true/\DV.one d2=true/\DV.one d3=true:=by
 obtain ⟨a,b,e,_⟩:=aC h.i1
 obtain ⟨a',b',e',_⟩:=aC h.i2
 obtain ⟨a'',b'',e'',_⟩:=aC h.i3
 rw[e,e',e'']
 exact ⟨rfl,rfl,rfl⟩
theorem V9 {a k:Int}(ha:0<=a/\a<=65535)(h:K (.int .u16 (bR a k)) T):aj PG 123 [.int .u16 a,.int .i64 k] T K:=by
 have o1:IntKind.u16.wrap ((BitVec.ofInt IntKind.u16.bits a ||| BitVec.ofInt IntKind.u16.bits 1).toNat:Nat)=mY a 1:=BR ha (by omega)
 have o2:IntKind.u16.wrap ((BitVec.ofInt IntKind.u16.bits a ||| BitVec.ofInt IntKind.u16.bits 2).toNat:Nat)=mY a 2:=BR ha (by omega)
 have o4:IntKind.u16.wrap ((BitVec.ofInt IntKind.u16.bits a ||| BitVec.ofInt IntKind.u16.bits 4).toNat:Nat)=mY a 4:=BR ha (by omega)
 have c1:IntKind.u16.wrap ((BitVec.ofInt IntKind.u16.bits a &&& ~~~ BitVec.ofInt IntKind.u16.bits 1).toNat:Nat)=jB a 1:=th 1 (by decide) ha
 have c2:IntKind.u16.wrap ((BitVec.ofInt IntKind.u16.bits a &&& ~~~ BitVec.ofInt IntKind.u16.bits 2).toNat:Nat)=jB a 2:=th 2 (by decide) ha
 have c4:IntKind.u16.wrap ((BitVec.ofInt IntKind.u16.bits a &&& ~~~ BitVec.ofInt IntKind.u16.bits 4).toNat:Nat)=jB a 4:=th 4 (by decide) ha
 have yL:IntKind.u16.wrap ((BitVec.ofInt IntKind.u16.bits a &&& ~~~ BitVec.ofInt IntKind.u16.bits 240).toNat:Nat)=jB a 240:=th 240 (by decide) ha
 have qb:IntKind.u16.wrap ((BitVec.ofInt IntKind.u16.bits a &&& ~~~ BitVec.ofInt IntKind.u16.bits 3840).toNat:Nat)=jB a 3840:=th 3840 (by decide) ha
 have z4:(4:Int).toNat=4:=rfl
 have z8:(8:Int).toNat=8:=rfl
 rcases Decidable.em (k=0) with n0 | n0
 ·have e:bR a k=0:=by unfold bR;rw[if_pos n0]
  rw[e] at h
  refine aj.aE FOk.nil dR (by simp[cE]) ?_
  unfold cE
  dsimp only
  simp -implicitDefEqProofs -dsimp only[ah,o1,o2,o4,c1,c2,c4,yL,qb,z4,z8,eq_true n0,vcS,↓vcQ,simprocAttr]
  repeat' (first | exact h | intro _ | apply And.intro | (exfalso;omega))
 ·skip
  rcases Decidable.em (k=1) with n1 | n1
  ·have e:bR a k=mY a 1:=by unfold bR;rw[if_neg n0,if_pos n1]
   rw[e] at h
   refine aj.aE FOk.nil dR (by simp[cE]) ?_
   unfold cE
   dsimp only
   simp -implicitDefEqProofs -dsimp only[ah,o1,o2,o4,c1,c2,c4,yL,qb,z4,z8,eq_false n0,eq_true n1,vcS,↓vcQ,simprocAttr]
   repeat' (first | exact h | intro _ | apply And.intro | (exfalso;omega))
  ·skip
   rcases Decidable.em (k=4) with n2 | n2
   ·have e:bR a k=mY a 2:=by unfold bR;rw[if_neg n0,if_neg n1,if_pos n2]
    rw[e] at h
    refine aj.aE FOk.nil dR (by simp[cE]) ?_
    unfold cE
    dsimp only
    simp -implicitDefEqProofs -dsimp only[ah,o1,o2,o4,c1,c2,c4,yL,qb,z4,z8,eq_false n0,eq_false n1,eq_true n2,vcS,↓vcQ,simprocAttr]
    repeat' (first | exact h | intro _ | apply And.intro | (exfalso;omega))
   ·skip
    rcases Decidable.em (k=7) with n3 | n3
    ·have e:bR a k=mY a 4:=by unfold bR;rw[if_neg n0,if_neg n1,if_neg n2,if_pos n3]
     rw[e] at h
     refine aj.aE FOk.nil dR (by simp[cE]) ?_
     unfold cE
     dsimp only
     simp -implicitDefEqProofs -dsimp only[ah,o1,o2,o4,c1,c2,c4,yL,qb,z4,z8,eq_false n0,eq_false n1,eq_false n2,eq_true n3,vcS,↓vcQ,simprocAttr]
     repeat' (first | exact h | intro _ | apply And.intro | (exfalso;omega))
    ·skip
     rcases Decidable.em (k=22) with n4 | n4
     ·have e:bR a k=jB a 1:=by unfold bR;rw[if_neg n0,if_neg n1,if_neg n2,if_neg n3,if_pos n4]
      rw[e] at h
      refine aj.aE FOk.nil dR (by simp[cE]) ?_
      unfold cE
      dsimp only
      simp -implicitDefEqProofs -dsimp only[ah,o1,o2,o4,c1,c2,c4,yL,qb,z4,z8,eq_false n0,eq_false n1,eq_false n2,eq_false n3,eq_true n4,vcS,↓vcQ,simprocAttr]
      repeat' (first | exact h | intro _ | apply And.intro | (exfalso;omega))
     ·skip
      rcases Decidable.em (k=24) with n5 | n5
      ·have e:bR a k=jB a 2:=by unfold bR;rw[if_neg n0,if_neg n1,if_neg n2,if_neg n3,if_neg n4,if_pos n5]
       rw[e] at h
       refine aj.aE FOk.nil dR (by simp[cE]) ?_
       unfold cE
       dsimp only
       simp -implicitDefEqProofs -dsimp only[ah,o1,o2,o4,c1,c2,c4,yL,qb,z4,z8,eq_false n0,eq_false n1,eq_false n2,eq_false n3,eq_false n4,eq_true n5,vcS,↓vcQ,simprocAttr]
       repeat' (first | exact h | intro _ | apply And.intro | (exfalso;omega))
      ·skip
       rcases Decidable.em (k=27) with n6 | n6
       ·have e:bR a k=jB a 4:=by unfold bR;rw[if_neg n0,if_neg n1,if_neg n2,if_neg n3,if_neg n4,if_neg n5,if_pos n6]
        rw[e] at h
        refine aj.aE FOk.nil dR (by simp[cE]) ?_
        unfold cE
        dsimp only
        simp -implicitDefEqProofs -dsimp only[ah,o1,o2,o4,c1,c2,c4,yL,qb,z4,z8,eq_false n0,eq_false n1,eq_false n2,eq_false n3,eq_false n4,eq_false n5,eq_true n6,vcS,↓vcQ,simprocAttr]
        repeat' (first | exact h | intro _ | apply And.intro | (exfalso;omega))
       ·skip
        rcases Decidable.em (30<=k/\k<=37) with n7 | n7
        ·have e:bR a k=mY (jB a 0xf0) ((k-29)*16):=by unfold bR;rw[if_neg n0,if_neg n1,if_neg n2,if_neg n3,if_neg n4,if_neg n5,if_neg n6,if_pos n7]
         rw[e] at h
         have w1:IntKind.i64.wrap (k-29)=k-29:=aO (by omega) (by omega)
         have w2:IntKind.u16.wrap (k-29)=k-29:=By (by omega) (by omega)
         have w3:IntKind.u16.wrap ((k-29)*2 ^ min 4 IntKind.u16.bits)=(k-29)*16:=By (by show 0<=(k-29)*16;omega) (by show (k-29)*16<=65535;omega)
         have w4:=BR (nu (m:=240) ha) (show 0<=(k-29)*16/\(k-29)*16<=65535 by omega)
         have q1:=n7.1
         have q2:=n7.2
         refine aj.aE FOk.nil dR (by simp[cE]) ?_
         unfold cE
         dsimp only
         simp -implicitDefEqProofs -dsimp only[ah,o1,o2,o4,c1,c2,c4,yL,qb,z4,z8,eq_false n0,eq_false n1,eq_false n2,eq_false n3,eq_false n4,eq_false n5,eq_false n6,eq_true q1,eq_true q2,w1,w2,w3,w4,vcS,↓vcQ,simprocAttr]
         repeat' (first | exact h | intro _ | apply And.intro | (exfalso;omega))
        ·skip
         have q7:(decide (30<=k) && decide (k<=37))=false:=by rw[Bool.and_eq_false_iff,decide_eq_false_iff_not,decide_eq_false_iff_not];omega
         rcases Decidable.em (k=39) with n8 | n8
         ·have e:bR a k=jB a 0xf0:=by unfold bR;rw[if_neg n0,if_neg n1,if_neg n2,if_neg n3,if_neg n4,if_neg n5,if_neg n6,if_neg n7,if_pos n8]
          rw[e] at h
          refine aj.aE FOk.nil dR (by simp[cE]) ?_
          unfold cE
          dsimp only
          simp -implicitDefEqProofs -dsimp only[ah,o1,o2,o4,c1,c2,c4,yL,qb,z4,z8,eq_false n0,eq_false n1,eq_false n2,eq_false n3,eq_false n4,eq_false n5,eq_false n6,q7,eq_true n8,vcS,↓vcQ,simprocAttr]
          repeat' (first | exact h | intro _ | apply And.intro | (exfalso;omega))
         ·skip
          rcases Decidable.em (40<=k/\k<=47) with n9 | n9
          ·have e:bR a k=mY (jB a 0xf00) ((k-39)*256):=by unfold bR;rw[if_neg n0,if_neg n1,if_neg n2,if_neg n3,if_neg n4,if_neg n5,if_neg n6,if_neg n7,if_neg n8,if_pos n9]
           rw[e] at h
           have w1:IntKind.i64.wrap (k-39)=k-39:=aO (by omega) (by omega)
           have w2:IntKind.u16.wrap (k-39)=k-39:=By (by omega) (by omega)
           have w3:IntKind.u16.wrap ((k-39)*2 ^ min 8 IntKind.u16.bits)=(k-39)*256:=By (by show 0<=(k-39)*256;omega) (by show (k-39)*256<=65535;omega)
           have w4:=BR (nu (m:=3840) ha) (show 0<=(k-39)*256/\(k-39)*256<=65535 by omega)
           have q1:=n9.1
           have q2:=n9.2
           refine aj.aE FOk.nil dR (by simp[cE]) ?_
           unfold cE
           dsimp only
           simp -implicitDefEqProofs -dsimp only[ah,o1,o2,o4,c1,c2,c4,yL,qb,z4,z8,eq_false n0,eq_false n1,eq_false n2,eq_false n3,eq_false n4,eq_false n5,eq_false n6,q7,eq_false n8,eq_true q1,eq_true q2,w1,w2,w3,w4,vcS,↓vcQ,simprocAttr]
           repeat' (first | exact h | intro _ | apply And.intro | (exfalso;omega))
          ·skip
           have q9:(decide (40<=k) && decide (k<=47))=false:=by rw[Bool.and_eq_false_iff,decide_eq_false_iff_not,decide_eq_false_iff_not];omega
           rcases Decidable.em (k=49) with n10 | n10
           ·have e:bR a k=jB a 0xf00:=by unfold bR;rw[if_neg n0,if_neg n1,if_neg n2,if_neg n3,if_neg n4,if_neg n5,if_neg n6,if_neg n7,if_neg n8,if_neg n9,if_pos n10]
            rw[e] at h
            refine aj.aE FOk.nil dR (by simp[cE]) ?_
            unfold cE
            dsimp only
            simp -implicitDefEqProofs -dsimp only[ah,o1,o2,o4,c1,c2,c4,yL,qb,z4,z8,eq_false n0,eq_false n1,eq_false n2,eq_false n3,eq_false n4,eq_false n5,eq_false n6,q7,eq_false n8,q9,eq_true n10,vcS,↓vcQ,simprocAttr]
            repeat' (first | exact h | intro _ | apply And.intro | (exfalso;omega))
           ·skip
            have e:bR a k=a:=by unfold bR;rw[if_neg n0,if_neg n1,if_neg n2,if_neg n3,if_neg n4,if_neg n5,if_neg n6,if_neg n7,if_neg n8,if_neg n9,if_neg n10]
            rw[e] at h
            refine aj.aE FOk.nil dR (by simp[cE]) ?_
            unfold cE
            dsimp only
            simp -implicitDefEqProofs -dsimp only[ah,o1,o2,o4,c1,c2,c4,yL,qb,z4,z8,eq_false n0,eq_false n1,eq_false n2,eq_false n3,eq_false n4,eq_false n5,eq_false n6,q7,eq_false n8,q9,eq_false n10,vcS,↓vcQ,simprocAttr]
            repeat' (first | exact h | intro _ | apply And.intro | (exfalso;omega))
theorem uw (ok:aR s)(hv:aJ s p v)(h:∀T' v',ax T T' []->aJ (cH s) p v'->K v' T'):aj PG 114 [v] T K:=by
 obtain ⟨z1,z2,z3,k1,k2,k3,m,pr,d1,d2,d3,sv,rfl⟩:=hv
 obtain ⟨o1,o2,o3⟩:=sv.pa.one
 have hr:=ok.g.r
 have hyr:=ok.y
 have hne:T.length+1≠T.length:=by omega
 rcases Decidable.em (s.y=s.bot) with hy | hy
 ·have e:cH s={ s with wrap:=false,cells:=upF s.cells s.aa s.top s.bot 1}:=by unfold cH;rw[if_pos hy]
  rw[e] at h
  have hy':(s.y:Int)=s.bot:=by omega
  unfold scD
  refine aj.aE FOk.nil qs (by simp[kN]) ?_
  unfold kN
  dsimp only
  simp -implicitDefEqProofs -dsimp only[ah,o1,o2,o3,eq_true hy',vcS,↓vcQ,simprocAttr]
  refine Qi sv.z1 ok.g ok.tb ok.b fun T1 g1=>?_
  have hb1:=g1.at (aZ T [_] (some (Ob.box _))) (by simp)
  have hb2:=g1.at (bl T [_,some (Ob.box _)] 1) (by simp)
  simp -implicitDefEqProofs -dsimp only[ah,ai hb1,ai hb2,fun y=>ai (bn hb2 y hne),o1,o2,o3,vcS,↓vcQ,simprocAttr]
  have kk:ax T T1 []:=(ax.app T _ []).new g1 (by simp)
  exact gI ((kk.put (Dd.ge (Nat.le_refl _)) _).put (Dd.ge (by omega)) _) fun k=>h _ _ k (aJ.of (s:={ s with wrap:=false,cells:=upF s.cells s.aa s.top s.bot 1}) ⟨rfl,sv.z2,sv.z3,sv.pa⟩)
 ·have hy':¬(s.y:Int)=s.bot:=by omega
  have w1:IntKind.i64.wrap ((s.rows:Int)-1)=(s.rows:Int)-1:=aO (by omega) (by omega)
  have w2:IntKind.i64.wrap ((s.y:Int)+1)=((s.y+1:Nat):Int):=by rw[aO (by omega) (by omega)];omega
  rcases Decidable.em (s.y+1<s.rows) with hz | hz
  ·have e:cH s={ s with wrap:=false,y:=s.y+1}:=by unfold cH;rw[if_neg hy,if_pos hz]
   rw[e] at h
   have hz':(s.y:Int)<(s.rows:Int)-1:=by omega
   unfold scD
   refine aj.aE FOk.nil qs (by simp[kN]) ?_
   unfold kN
   dsimp only
   simp -implicitDefEqProofs -dsimp only[ah,o1,o2,o3,eq_false hy',w1,w2,eq_true hz',vcS,↓vcQ,simprocAttr]
   exact h _ _ (ax.app _ _ _) (aJ.of (s:={ s with wrap:=false,y:=s.y+1}) ⟨sv.z1,sv.z2,sv.z3,sv.pa⟩)
  ·have e:cH s={ s with wrap:=false}:=by unfold cH;rw[if_neg hy,if_neg hz]
   rw[e] at h
   have hz':¬(s.y:Int)<(s.rows:Int)-1:=by omega
   unfold scD
   refine aj.aE FOk.nil qs (by simp[kN]) ?_
   unfold kN
   dsimp only
   simp -implicitDefEqProofs -dsimp only[ah,o1,o2,o3,eq_false hy',w1,w2,eq_false hz',vcS,↓vcQ,simprocAttr]
   exact h _ _ (ax.app _ _ _) (aJ.of (s:={ s with wrap:=false}) ⟨sv.z1,sv.z2,sv.z3,sv.pa⟩)
theorem sV {y x:Int}(ok:aR s)(hv:aJ s p v)(h:∀T' v',ax T T' []->aJ (toF s y x) p v'->K v' T'):aj PG 117 [v,.int .i64 y,.int .i64 x] T K:=by
 obtain ⟨z1,z2,z3,k1,k2,k3,m,pr,d1,d2,d3,sv,rfl⟩:=hv
 obtain ⟨o1,o2,o3⟩:=sv.pa.one
 have hr:=ok.g.r
 have hc:=ok.g.c
 have w1:IntKind.i64.wrap ((s.rows:Int)-1)=(s.rows:Int)-1:=aO (by omega) (by omega)
 have w2:IntKind.i64.wrap ((s.aa:Int)-1)=(s.aa:Int)-1:=aO (by omega) (by omega)
 have m1:min (max y 0) ((s.rows:Int)-1)=((min y.toNat (s.rows-1):Nat):Int):=by omega
 have m2:min (max x 0) ((s.aa:Int)-1)=((min x.toNat (s.aa-1):Nat):Int):=by omega
 unfold scD
 refine aj.aE FOk.nil NO (by simp[Ec]) ?_
 unfold Ec
 dsimp only
 simp -implicitDefEqProofs -dsimp only[ah,o1,o2,o3,w1,w2,m1,m2,vcS,↓vcQ,simprocAttr]
 exact h _ _ (ax.app _ _ _) (aJ.of (s:=toF s y x) ⟨sv.z1,sv.z2,sv.z3,sv.pa⟩)
def zS:RC:=(.seq (SR [MV 23 8,MV 24 1,BT 25 .lss 23 24] [1,4,7,8,25] (.cond (.t 25) .skip (.ext 0))) (.seq (.blk 1 (.reg [FA 28 9 7,LD 29 28,MV 30 8,OP 31 (.aT 1 (.t 29) (.t 30)),NP (.store 1 (.t 31) (.c (.bool true)))] 0 [1,4,7,8])) (.reg [MV 26 8,BI 27 .add 26 8,MV 8 27] 0 [1,4,7,8])))
def yY:RFn:=⟨2,33,(SR [OP 4 (.alloc ZS),OP 5 (.mov (.c (.int .i64 0)))] [0,1,4] (SR [MV 9 0,MV 10 1,OP 11 (.call 19 [.t 9,.t 10]),MV 6 11] [0,1,4,6] (.seq (SR [MV 12 6,OP 13 (.jM false (.t 12) (.c (.sl 0 [] .nil)))] [0,1,4,6,13] (.cond (.t 13) (SR [OP 14 (.build [.int .i64 0,.int .i64 0,.sl 0 [] .nil,.int .i64 0,.int .i64 0,.bool false,.int .u16 0,.int .i64 0,.int .i64 0,.sl 0 [] .nil,.int .i64 0,.int .i64 0,.int .u16 0,.bool false,.bool false,.bool false,.sl 0 [] .nil,.int .i64 0,.int .i64 0,.int .i64 0,.int .u8 0,.sl 0 [] .nil,.sl 0 [] .nil,.sl 0 [] .nil] []),SA 24 4 14,OP 5 (.mov (.c (.int .i64 26)))] [4,5] .ret) .skip)) (SR [MV 15 0,MV 16 1,MV 17 6,MV 18 0,BI 19 .sub 18 1,MV 20 1,OP 21 (.fY 1 1 [.bool false] (.t 20) (.t 20)),OP 22 (.build [.int .i64 0,.int .i64 0,.sl 0 [] .nil,.int .i64 0,.int .i64 0,.bool false,.int .u16 0,.int .i64 0,.int .i64 0,.sl 0 [] .nil,.int .i64 0,.int .i64 0,.int .u16 0,.bool false,.bool false,.bool false,.sl 0 [] .nil,.int .i64 0,.int .i64 0,.int .i64 0,.int .u8 0,.sl 0 [] .nil,.sl 0 [] .nil,.sl 0 [] .nil] [(0,(1,(.t 15))),(1,(1,(.t 16))),(2,(1,(.t 17))),(8,(1,(.t 19))),(13,(1,(.c (.bool true)))),(14,(1,(.c (.bool true)))),(9,(1,(.t 21)))]),OP 7 (.alloc ZS),SA 24 7 22] [1,4,7] (.seq (SR [OP 8 (.mov (.c (.int .i64 0)))] [1,4,7,8] (.blk 0 (.loop zS))) (SR [LT 32 24 7,SA 24 4 32,OP 5 (.mov (.c (.int .i64 0)))] [4,5] .ret)))))),[.c 4 true 24,.t 5]⟩
theorem JT:aK PG.P (aA PG.P 22 yY) 22=some yY:=by kernel_rfl
def kJ (c x:Nat):List Bool:=(List.range c).map fun i=>decide (i % 8=0/\i<x)
theorem NB (c x:Nat):(kJ c x).length=c:=by simp[kJ]
theorem XK (c:Nat):kJ c 0=List.replicate c false:=by
 refine List.ext_getElem (by simp[kJ]) fun i h1 h2=>?_
 simp[kJ]
theorem NC {c x:Nat}(h:c<=x):kJ c x=mC c:=by
 refine List.ext_getElem (by simp[kJ,mC]) fun i h1 h2=>?_
 simp only[kJ,List.length_map,List.length_range] at h1
 simp only[kJ,mC,List.getElem_map,List.getElem_range,decide_eq_decide]
 omega
theorem NA {c j:Nat}(h:8*j<c):(kJ c (8*j)).set (8*j) true=kJ c (8*(j+1)):=by
 refine List.ext_getElem (by simp[kJ]) fun i h1 h2=>?_
 simp only[kJ,List.length_map,List.length_range] at h2
 rw[List.getElem_set]
 simp only[kJ,List.getElem_map,List.getElem_range]
 split
 ·rename_i e;symm;rw[decide_eq_true_eq];omega
 ·rename_i e;rw[decide_eq_decide];omega
theorem Qj {r c:Nat}(hr:1<=r/\r<=1000)(hc:1<=c/\c<=1000)(h:∀T' v,ax T T' []->aJ (newF r c) (pa0 0) v->K (.tup [v,.int .i64 0]) T'):aj PG 22 [.int .i64 r,.int .i64 c] T K:=by
 have hrc:0<r*c:=Nat.mul_pos (by omega) (by omega)
 have w1:IntKind.i64.wrap ((r:Int)-1)=((r-1:Nat):Int):=by rw[aO (by omega) (by omega)];omega
 refine aj.fq FOk.nil JT (by simp[yY]) ?_
 unfold yY
 dsimp only
 simp -implicitDefEqProofs -dsimp only[ah,vcS,↓vcQ,simprocAttr]
 refine FU hr hc fun T1 q hq hA k1=>?_
 have hb:=k1.at (aZ T [] (some (Ob.box _))) (by simp)
 have n0:(0:Int)<=c:=by omega
 have hb1:(c:Int)*1<=140737488355328/\(c:Int)<=4611686018427387904:=by omega
 simp -implicitDefEqProofs -dsimp only[ah,hrc,w1,n0,hb1,Int.le_refl,pR,vcS,↓vcQ,simprocAttr]
 have e:BU r c q T1.length=.agg [.int .i64 r,.int .i64 c,.own q 0 (r*c),.int .i64 0,.int .i64 0,.bool false,.int .u16 0,.int .i64 0,.int .i64 ((r-1:Nat):Int),.own T1.length 0 c,.int .i64 0,.int .i64 0,.int .u16 0,.bool true,.bool true,.bool false,.sl 0 [] .nil,.int .i64 0,.int .i64 0,.int .i64 0,.int .u8 0,.sl 0 [] .nil,.sl 0 [] .nil,.sl 0 [] .nil]:=by
  simp[BU,aN,newF,dV,rE]
 have lq:=eI hA
 have kk:ax T T1 []:=(ax.app T _ []).new k1 (by simp)
 have lk1:=k1.1
 simp only[List.length_append,List.length_cons,List.length_nil] at lk1 hq
 refine bk.inv FOk.nil (S:=fun j:Nat=>⟨[(1,.int .i64 c),(4,.ptr T.length 0 0),(7,.ptr (T1.length+1) 0 0),(8,.int .i64 (8*j:Nat))],T1++ [some (.arr 1 (bg (kJ c (8*j)))),some (.box [.int .i64 r,.int .i64 c,.own q 0 (r*c),.int .i64 0,.int .i64 0,.bool false,.int .u16 0,.int .i64 0,.int .i64 ((r-1:Nat):Int),.own T1.length 0 c,.int .i64 0,.int .i64 0,.int .u16 0,.bool true,.bool true,.bool false,.sl 0 [] .nil,.int .i64 0,.int .i64 0,.int .i64 0,.int .u8 0,.sl 0 [] .nil,.sl 0 [] .nil,.sl 0 [] .nil])]⟩)
  (I:=fun j=>8*j<=c+7) (μ:=fun j=>c+7-8*j) 0 (by omega) ?_ ?_
 ·simp -implicitDefEqProofs -dsimp only[an,Nat.mul_zero,XK,vcS,↓vcQ,simprocAttr]
 ·intro j hj
  unfold zS
  have hl:=NB c (8*j)
  rcases Nat.lt_or_ge (8*j) c with hx | hx
  ·have hii:((8*j:Nat):Int)<c:=by omega
   have i0:(0:Int)<=((8*j:Nat):Int):=by omega
   have w2:IntKind.i64.wrap (((8*j:Nat):Int)+8)=((8*(j+1):Nat):Int):=by rw[aO (by omega) (by omega)];omega
   have hg:=fl (L:=kJ c (8*j)) (i:=8*j) (by omega)
   have bY:=jg (kJ c (8*j)) (8*j) true
   rw[NA hx] at bY
   simp -implicitDefEqProofs -dsimp only[ah,hii,i0,w2,hg,bY,Nat.zero_add,an,vcS,↓vcQ,simprocAttr]
   exact ⟨j+1,⟨rfl,aH _⟩,by omega,by omega⟩
  ·have hii:¬((8*j:Nat):Int)<c:=by omega
   rw[NC hx]
   simp -implicitDefEqProofs -dsimp only[ah,ai hb,hii,vcS,↓vcQ,simprocAttr]
   obtain ⟨TB,eTB⟩:∃TB,TB=aN (newF r c) q T1.length (.sl 0 [] .nil) 0 0 (.sl 0 [] .nil) (.sl 0 [] .nil) (.sl 0 [] .nil):=⟨_,rfl⟩
   have e2:aN (newF r c) q T1.length (.sl 0 [] .nil) 0 0 (.sl 0 [] .nil) (.sl 0 [] .nil) (.sl 0 [] .nil)=_:=DV.agg.inj e
   have ht:(T1.set T.length (some (.box TB))++ [some (.arr 1 (bg (mC c))),some (.box TB)])[T1.length]?=some (some (.arr 1 (bg (mC c)))):=by
    have:=aZ (T1.set T.length (some (.box TB))) [some (.box TB)] (some (Ob.arr 1 (bg (mC c))))
    rwa [List.length_set] at this
   have kX:ax T (T1.set T.length (some (.box TB))++ [some (.arr 1 (bg (mC c))),some (.box TB)]) []:=(kk.put (Dd.ge (Nat.le_refl _)) _).dU _
   have tz:jT T (T1.set T.length (some (.box TB))++ [some (.arr 1 (bg (mC c))),some (.box TB)]) T.length q T1.length (newF r c) (.sl 0 [] .nil) 0 0 (.sl 0 [] .nil) (.sl 0 [] .nil) (.sl 0 [] .nil):=
    ⟨by rw[<-eTB];exact hO (bZ hb _) _,hO (bn hA _ (by omega)) _,ht,.inr ⟨rfl,0,.nil,rfl⟩,by omega,by omega,by omega,Dd.ge (Nat.le_refl _),Dd.ge (by omega),Dd.ge (by omega)⟩
   have pz:xH (pa0 0) 0 0 (.sl 0 [] .nil) (.sl 0 [] .nil) (.sl 0 [] .nil):={ m:=rfl,pr:=rfl,i1:=fP _ _ _,i2:=fP _ _ _,i3:=fP _ _ _,e1:=rfl,e2:=rfl,e3:=rfl}
   obtain ⟨v',T',hF,hv,kT,hl⟩:=eK.scT (n:=.i64) (x:=0) kX pz tz (vH hr hc)
   refine ⟨by simp;omega,.tup [v',.int .i64 0],T', ?_,h T' v' kT hv⟩
   rw[eTB,e2] at hF
   exact hF
def qu:RC:=(.seq (SR [FA 21 4 2,LD 22 21,FA 23 1 2,LD 24 23,BT 25 .lss 22 24,MV 26 25,FG 27 9 2 26 true,LG 28 27 26 true,FG 29 4 2 26 true,LG 30 29 26 true,OG 31 (.aT 1 (.t 28) (.t 30)) 26 true,LG 32 31 26 true,OG 33 (.un .not (.t 32)) 26 true,OP 34 (.pick (.t 26) (.t 33) (.c (.bool false)))] [2,4,34] (.cond (.t 34) .skip (.ext 1))) (.blk 2 (.reg [FA 35 4 2,LD 36 35,BI 37 .add 36 1,FA 38 4 2,SA 1 38 37] 0 [2,4])))
def dS:RFn:=⟨2,57,(SR [OP 2 (.box 24 (.t 0)),OP 4 (.alloc ZS)] [1,2,4] (.seq (SR [MV 5 1] [2,4,5] (.blk 0 (SR [OP 7 (.bin .eql (.t 5) (.c (.int .u8 8))),MV 6 7] [2,4,5,6] (.cond (.t 6) (.reg [FA 8 4 2,LD 9 8,BI 10 .sub 9 1,OP 11 (.mm true (.t 10) (.c (.int .i64 0))),FA 12 4 2,SA 1 12 11,FA 13 5 2,NP (.store 1 (.t 13) (.c (.bool false)))] 0 [2,4]) (SR [OP 15 (.bin .eql (.t 5) (.c (.int .u8 9))),MV 14 15] [2,4,5,14] (.cond (.t 14) (SR [FA 16 5 2,NP (.store 1 (.t 16) (.c (.bool false)))] [2,4] (SR [FA 17 4 2,LD 18 17,BI 19 .add 18 1,FA 20 4 2,SA 1 20 19] [2,4] (.seq (.blk 1 (.loop qu)) (.reg [FA 39 4 2,LD 40 39,FA 41 1 2,LD 42 41,BI 43 .sub 42 1,OP 44 (.mm false (.t 40) (.t 43)),FA 45 4 2,SA 1 45 44] 0 [2,4])))) (.seq (SR [OP 47 (.bin .eql (.t 5) (.c (.int .u8 10))),MV 46 47] [2,4,5,46] (.cond (.t 46) .skip (SR [OP 48 (.bin .eql (.t 5) (.c (.int .u8 11))),MV 46 48] [2,4,5,46] (.cond (.t 46) .skip (.reg [OP 49 (.bin .eql (.t 5) (.c (.int .u8 12))),MV 46 49] 0 [2,4,5,46]))))) (.cond (.t 46) (SR [LT 50 24 2,OP 51 (.call 114 [.t 50]),SA 24 4 51] [4] .ret) (SR [OP 53 (.bin .eql (.t 5) (.c (.int .u8 13))),MV 52 53] [2,4,52] (.cond (.t 52) (.reg [FA 54 4 2,NP (.store 1 (.t 54) (.c (.int .i64 0))),FA 55 5 2,NP (.store 1 (.t 55) (.c (.bool false)))] 0 [2,4]) .skip)))))))))) (SR [LT 56 24 2,SA 24 4 56] [4] .ret))),[.c 4 true 24]⟩
theorem iu:aK PG.P (aA PG.P 72 dS) 72=some dS:=by kernel_rfl
theorem Dr {T0:ay} {q n z2 z3 : Nat}   {k2 k3 : SK}   {K : DV -> ay -> Prop} (hq : T[q]? = some (some (.arr 3 (aq s.cells)))) (hn : n = s.cells.length) (k : ax T0 T []) (hd : T0.length <= q)
    (sv : ScV s p 3 z2 z3 m pr d1 d2 d3) (h : ∀ T' v', ax T0 T' [] -> aJ s p v' -> K v' T') :
    T0.length <= T.length /\ ∃ d' T'', eK ⟨[(0, .agg [.int .i64 s.rows, .int .i64 s.aa, .own q 0 n, .int .i64 s.y, .int .i64 s.x, .bool s.wrap, .int .u16 s.attr, .int .i64 s.top, .int .i64 s.bot, .sl z2 (bg s.aP) k2,
      .int .i64 s.sy, .int .i64 s.sx, .int .u16 s.eg, .bool s.auto, .bool s.shown, .bool s.alt, .sl z3 (aq s.other) k3, .int .i64 s.oy, .int .i64 s.ox, .int .i64 m, .int .u8 pr, d1, d2, d3])], T⟩ ⟨[(0, d')], T''⟩ /\ K d' T'' := by
  subst hn
  have h1 := eK.Vm (cs := [.int .i64 s.rows, .int .i64 s.aa, .own q 0 s.cells.length, .int .i64 s.y, .int .i64 s.x, .bool s.wrap, .int .u16 s.attr, .int .i64 s.top, .int .i64 s.bot, .sl z2 (bg s.aP) k2,
      .int .i64 s.sy, .int .i64 s.sx, .int .u16 s.eg, .bool s.auto, .bool s.shown, .bool s.alt, .sl z3 (aq s.other) k3, .int .i64 s.oy, .int .i64 s.ox, .int .i64 m, .int .u8 pr, d1, d2, d3]) hq
  simp only[List.map_cons, List.map_nil, vV q 3 _ _ (az s.cells).symm, TJ, gT sv.pa.i1, gT sv.pa.i2, gT sv.pa.i3, HL, AF] at h1
  exact ⟨k.1, _, _, h1, h _ _ (k.put (Dd.ge hd) _) (aJ.of (s := s) (k1 := .any) sv)⟩
theorem TM {T0:ay} {q n z1 z3 : Nat}   {k1 k3 : SK}   {K : DV -> ay -> Prop} (hq : T[q]? = some (some (.arr 1 (bg s.aP)))) (hn : n = s.aP.length) (k : ax T0 T []) (hd : T0.length <= q)
    (sv : ScV s p z1 1 z3 m pr d1 d2 d3) (h : ∀ T' v', ax T0 T' [] -> aJ s p v' -> K v' T') :
    T0.length <= T.length /\ ∃ d' T'', eK ⟨[(0, .agg [.int .i64 s.rows, .int .i64 s.aa, .sl z1 (aq s.cells) k1, .int .i64 s.y, .int .i64 s.x, .bool s.wrap, .int .u16 s.attr, .int .i64 s.top, .int .i64 s.bot, .own q 0 n,
      .int .i64 s.sy, .int .i64 s.sx, .int .u16 s.eg, .bool s.auto, .bool s.shown, .bool s.alt, .sl z3 (aq s.other) k3, .int .i64 s.oy, .int .i64 s.ox, .int .i64 m, .int .u8 pr, d1, d2, d3])], T⟩ ⟨[(0, d')], T''⟩ /\ K d' T'' := by
  subst hn
  have h1 := eK.Vm (cs := [.int .i64 s.rows, .int .i64 s.aa, .sl z1 (aq s.cells) k1, .int .i64 s.y, .int .i64 s.x, .bool s.wrap, .int .u16 s.attr, .int .i64 s.top, .int .i64 s.bot, .own q 0 s.aP.length,
      .int .i64 s.sy, .int .i64 s.sx, .int .u16 s.eg, .bool s.auto, .bool s.shown, .bool s.alt, .sl z3 (aq s.other) k3, .int .i64 s.oy, .int .i64 s.ox, .int .i64 m, .int .u8 pr, d1, d2, d3]) hq
  simp only[List.map_cons, List.map_nil, vV q 1 _ _ (aY s.aP).symm, TJ, gT sv.pa.i1, gT sv.pa.i2, gT sv.pa.i3, HL, AF] at h1
  exact ⟨k.1, _, _, h1, h _ _ (k.put (Dd.ge hd) _) (aJ.of (s := s) (k2 := .any) sv)⟩
theorem Jb {b:Int}(ok:aR s)(hv:aJ s p v)(h:∀T' v',ax T T' []->aJ (xD s b) p v'->K v' T'):aj PG 72 [v,.int .u8 b] T K:=by
 obtain ⟨z1,z2,z3,k1,k2,k3,m,pr,d1,d2,d3,sv,rfl⟩:=hv
 obtain ⟨o1,o2,o3⟩:=sv.pa.one
 have hr:=ok.g.r
 have hc:=ok.g.c
 have hyr:=ok.y
 have hxr:=ok.x
 have hne:T.length+1≠T.length:=by omega
 unfold xD at h
 rcases Decidable.em (b=8) with b1 | b1
 ·rw[if_pos b1] at h
  have w1:max (IntKind.i64.wrap ((s.x:Int)-1)) 0=((s.x-1:Nat):Int):=by rw[aO (by omega) (by omega)];omega
  unfold scD
  refine aj.aE FOk.nil iu (by simp[dS]) ?_
  unfold dS
  dsimp only
  simp -implicitDefEqProofs -dsimp only[ah,o1,o2,o3,eq_true b1,w1,vcS,↓vcQ,simprocAttr]
  exact h _ _ (ax.app _ _ _) (aJ.of (s:={ s with x:=s.x-1,wrap:=false}) ⟨sv.z1,sv.z2,sv.z3,sv.pa⟩)
 rw[if_neg b1] at h
 rcases Decidable.em (b=9) with b2 | b2
 ·rw[if_pos b2] at h
  have w1:IntKind.i64.wrap ((s.x:Int)+1)=((s.x+1:Nat):Int):=by rw[aO (by omega) (by omega)];omega
  have w2:IntKind.i64.wrap ((s.aa:Int)-1)=((s.aa-1:Nat):Int):=by rw[aO (by omega) (by omega)];omega
  unfold scD
  refine aj.aE FOk.nil iu (by simp[dS]) ?_
  unfold dS
  dsimp only
  simp -implicitDefEqProofs -dsimp only[ah,o1,o2,o3,eq_false b1,eq_true b2,w1,w2,vcS,↓vcQ,simprocAttr]
  refine bk.inv FOk.nil (S:=fun i:Nat=>⟨[(2,.ptr T.length 0 0),(4,.ptr (T.length+1) 0 0)],T++ [some (.box (scD { s with x:=i,wrap:=false} z1 z2 z3 k1 k2 k3 m pr d1 d2 d3)),some (.box lp)]⟩)
   (I:=fun i=>i<=s.aa/\min (qm s.aP s.aa s.aa i) (s.aa-1)=min (qm s.aP s.aa s.aa (s.x+1)) (s.aa-1)) (μ:=fun i=>s.aa-i) (s.x+1) ⟨by omega,rfl⟩ ?_ ?_
  ·simp -implicitDefEqProofs -dsimp only[an,vcS,↓vcQ,simprocAttr]
   exact aH _
  ·intro i ⟨hi,hn⟩
   unfold qu
   dsimp only[scD,lp]
   have i0:(0:Int)<=i:=by omega
   have m1:min (i:Int) ((s.aa-1:Nat):Int)=((min i (s.aa-1):Nat):Int):=by omega
   have w3:IntKind.i64.wrap ((i:Int)+1)=((i+1:Nat):Int):=by rw[aO (by omega) (by omega)];omega
   rcases Nat.lt_or_ge i s.aa with h1 | h1
   ·have h1':(i:Int)<(s.aa:Int):=by omega
    have h2':(i:Int)<(s.aP.length:Int):=by rw[ok.aP];omega
    have hg:=fl (L:=s.aP) (i:=i) (by rw[ok.aP];omega)
    have hz2:=sv.z2
    subst hz2
    cases h3:s.aP.getD i false with
    | true=>
     rw[h3] at hg
     simp -implicitDefEqProofs -dsimp only[ah,o1,o2,o3,i0,w2,h1',h2',hg,aY,m1,Nat.zero_add,vcS,↓vcQ,simprocAttr]
     rw[rF (by simp only[h3];simp)] at hn
     rw[<-hn] at h
     exact h _ _ (ax.app _ _ _) (aJ.of (s:={ s with x:=min i (s.aa-1),wrap:=false}) ⟨sv.z1,rfl,sv.z3,sv.pa⟩)
    | false=>
     rw[h3] at hg
     simp -implicitDefEqProofs -dsimp only[ah,o1,o2,o3,i0,w2,w3,h1',h2',hg,aY,m1,Nat.zero_add,an,vcS,↓vcQ,simprocAttr]
     refine ⟨i+1,aH _,⟨by omega, ?_⟩,by omega⟩
     rw[<-hn]
     rcases Nat.lt_or_ge (i+1) s.aa with h4 | h4
     ·rw[LY h4 h3]
     ·rw[rF (x:=i) (by omega),rF (x:=i+1) (by omega)];omega
   ·have h1':¬(i:Int)<(s.aa:Int):=by omega
    simp -implicitDefEqProofs -dsimp only[ah,o1,o2,o3,i0,w2,eq_false h1',m1,Nat.zero_add,vcS,↓vcQ,simprocAttr]
    rw[rF (by omega)] at hn
    rw[<-hn] at h
    exact h _ _ (ax.app _ _ _) (aJ.of (s:={ s with x:=min i (s.aa-1),wrap:=false}) ⟨sv.z1,sv.z2,sv.z3,sv.pa⟩)
 rw[if_neg b2] at h
 rcases Decidable.em (b=10\/b=11\/b=12) with b3 | b3
 ·rw[if_pos b3] at h
  rcases b3 with rfl | rfl | rfl
  all_goals
   unfold scD
   refine aj.aE FOk.nil iu (by simp[dS]) ?_
   unfold dS
   dsimp only
   simp -implicitDefEqProofs -dsimp only[ah,o1,o2,o3,vcS,↓vcQ,simprocAttr]
   refine uw (s:=s) ok (aJ.of sv) fun T1 v' g1 hv'=>?_
   obtain ⟨y1,y2,y3,j1,j2,j3,m',pr',e1,e2,e3,sv',rfl⟩:=hv'
   obtain ⟨p1,p2,p3⟩:=sv'.pa.one
   unfold scD
   have hb1:=g1.at (aZ T [_] (some (Ob.box _))) (by simp)
   have hb2:=g1.at (bl T [_,some (Ob.box _)] 1) (by simp)
   simp -implicitDefEqProofs -dsimp only[ah,ai hb1,ai hb2,p1,p2,p3,vcS,↓vcQ,simprocAttr]
   have kk:ax T T1 []:=(ax.app T _ []).new g1 (by simp)
   exact gI (kk.put (Dd.ge (by omega)) _) fun k=>h _ _ k (aJ.of (s:=cH s) sv')
 rw[if_neg b3] at h
 have b31:¬b=10:=by omega
 have b32:¬b=11:=by omega
 have b33:¬b=12:=by omega
 rcases Decidable.em (b=13) with b4 | b4
 ·rw[if_pos b4] at h
  unfold scD
  refine aj.aE FOk.nil iu (by simp[dS]) ?_
  unfold dS
  dsimp only
  simp -implicitDefEqProofs -dsimp only[ah,o1,o2,o3,eq_false b1,eq_false b2,eq_false b31,eq_false b32,eq_false b33,eq_true b4,vcS,↓vcQ,simprocAttr]
  exact h _ _ (ax.app _ _ _) (aJ.of (s:={ s with x:=0,wrap:=false}) ⟨sv.z1,sv.z2,sv.z3,sv.pa⟩)
 ·rw[if_neg b4] at h
  unfold scD
  refine aj.aE FOk.nil iu (by simp[dS]) ?_
  unfold dS
  dsimp only
  simp -implicitDefEqProofs -dsimp only[ah,o1,o2,o3,eq_false b1,eq_false b2,eq_false b31,eq_false b32,eq_false b33,eq_false b4,vcS,↓vcQ,simprocAttr]
  exact h _ _ (ax.app _ _ _) (aJ.of (s:=s) sv)
def cg:RFn:=⟨2,85,(SR [OP 2 (.box 24 (.t 0)),OP 4 (.alloc ZS)] [1,2,4] (.seq (SR [MV 5 1] [2,4,5] (.blk 0 (SR [OP 7 (.bin .eql (.t 5) (.c (.int .u8 55))),MV 6 7] [2,4,5,6] (.cond (.t 6) (.reg [FA 8 3 2,LD 9 8,FA 10 4 2,LD 11 10,FA 12 6 2,LD 13 12,FA 14 10 2,SA 1 14 9,FA 15 11 2,SA 1 15 11,FA 16 12 2,SA 1 16 13] 0 [2,4]) (SR [OP 18 (.bin .eql (.t 5) (.c (.int .u8 56))),MV 17 18] [2,4,5,17] (.cond (.t 17) (.reg [FA 19 10 2,LD 20 19,FA 21 11 2,LD 22 21,FA 23 12 2,LD 24 23,FA 25 3 2,SA 1 25 20,FA 26 4 2,SA 1 26 22,FA 27 6 2,SA 1 27 24,FA 28 5 2,NP (.store 1 (.t 28) (.c (.bool false)))] 0 [2,4]) (SR [OP 30 (.bin .eql (.t 5) (.c (.int .u8 68))),MV 29 30] [2,4,5,29] (.cond (.t 29) (SR [LT 31 24 2,OP 32 (.call 114 [.t 31]),SA 24 4 32] [4] .ret) (SR [OP 34 (.bin .eql (.t 5) (.c (.int .u8 69))),MV 33 34] [2,4,5,33] (.cond (.t 33) (SR [LT 35 24 2,OP 36 (.call 114 [.t 35]),SA 24 2 36] [2,4] (.reg [FA 37 4 2,NP (.store 1 (.t 37) (.c (.int .i64 0)))] 0 [2,4])) (SR [OP 39 (.bin .eql (.t 5) (.c (.int .u8 77))),MV 38 39] [2,4,5,38] (.cond (.t 38) (SR [FA 40 5 2,NP (.store 1 (.t 40) (.c (.bool false)))] [2,4] (SR [FA 41 3 2,LD 42 41,FA 43 7 2,LD 44 43,BT 45 .eql 42 44] [2,4,45] (.cond (.t 45) (.reg [FA 46 2 2,LD 47 46,FA 48 1 2,LD 49 48,FA 50 7 2,LD 51 50,FA 52 8 2,LD 53 52,OP 54 (.call 115 [.t 47,.t 49,.t 51,.t 53,.c (.int .i64 1)]),FA 55 2 2,SA 1 55 54] 0 [2,4]) (SR [FA 56 3 2,LD 57 56,BI 58 .gtr 57 0] [2,4,58] (.cond (.t 58) (.reg [FA 59 3 2,LD 60 59,BI 61 .sub 60 1,FA 62 3 2,SA 1 62 61] 0 [2,4]) .skip))))) (SR [OP 64 (.bin .eql (.t 5) (.c (.int .u8 72))),MV 63 64] [2,4,5,63] (.cond (.t 63) (SR [FA 65 9 2,LD 66 65,OP 67 (.append 1 1 (.c (.sl 0 [] .nil)) (.t 66)),FA 68 9 2,SA 1 68 67] [2,4] (.reg [FA 69 9 2,LD 70 69,FA 71 4 2,LD 72 71,OP 73 (.aT 1 (.t 70) (.t 72)),NP (.store 1 (.t 73) (.c (.bool true)))] 0 [2,4])) (SR [OP 75 (.bin .eql (.t 5) (.c (.int .u8 99))),MV 74 75] [2,4,74] (.cond (.t 74) (.reg [FA 77 0 2,LD 78 77,FA 79 1 2,LD 80 79,OP 81 (.call 22 [.t 78,.t 80]),MV 76 81,OP 82 (.ext (.t 76) 0),OP 83 (.ext (.t 76) 1),SA 24 2 82] 0 [2,4]) .skip)))))))))))))))) (SR [LT 84 24 2,SA 24 4 84] [4] .ret))),[.c 4 true 24]⟩
theorem dF:aK PG.P (aA PG.P 73 cg) 73=some cg:=by kernel_rfl
def eU:RFn:=⟨3,71,(SR [OP 3 (.box 24 (.t 0)),OP 6 (.alloc ZS)] [1,2,3,6] (.seq (.blk 0 (SR [MV 8 1,BI 9 .eql 8 7,MV 7 9] [1,2,3,6,7] (.cond (.t 7) (.reg [MV 10 2,FA 11 13 3,SA 1 11 10] 0 [3,6]) (SR [MV 13 1,BI 14 .eql 13 25,MV 12 14] [1,2,3,6,12] (.cond (.t 12) (.reg [MV 15 2,FA 16 14 3,SA 1 16 15] 0 [3,6]) (SR [MV 18 1,BI 19 .eql 18 1049,MV 20 19,MG 21 2 20 true,OP 22 (.pick (.t 20) (.t 21) (.c (.bool false))),MV 23 22,FG 24 15 3 23 true,LG 25 24 23 true,OG 26 (.un .not (.t 25)) 23 true,OP 27 (.pick (.t 23) (.t 26) (.c (.bool false))),MV 17 27] [1,2,3,6,17] (.cond (.t 17) (SR [FA 28 2 3,LD 29 28,FA 30 3 3,LD 31 30,FA 32 4 3,LD 33 32,FA 34 16 3,SA 1 34 29,FA 35 17 3,SA 1 35 31,FA 36 18 3,SA 1 36 33,FA 37 15 3,NP (.store 1 (.t 37) (.c (.bool true))),FA 38 5 3,NP (.store 1 (.t 38) (.c (.bool false)))] [3,6] (.reg [FA 39 0 3,LD 40 39,FA 41 1 3,LD 42 41,OP 43 (.call 19 [.t 40,.t 42]),FA 44 2 3,SA 1 44 43] 0 [3,6])) (SR [MV 46 1,BI 47 .eql 46 1049,MV 48 47,MG 49 2 48 true,OG 50 (.un .not (.t 49)) 48 true,OP 51 (.pick (.t 48) (.t 50) (.c (.bool false))),MV 52 51,FG 53 15 3 52 true,LG 54 53 52 true,OP 55 (.pick (.t 52) (.t 54) (.c (.bool false))),MV 45 55] [3,6,45] (.cond (.t 45) (SR [FA 56 16 3,LD 57 56,FA 58 17 3,LD 59 58,FA 60 18 3,LD 61 60,FA 62 2 3,SA 1 62 57,FA 63 3 3,SA 1 63 59,FA 64 4 3,SA 1 64 61,FA 65 15 3,NP (.store 1 (.t 65) (.c (.bool false))),FA 66 5 3,NP (.store 1 (.t 66) (.c (.bool false)))] [3,6] (.reg [FA 67 16 3,NP (.store 1 (.t 67) (.c (.sl 0 [] .nil))),FA 68 17 3,NP (.store 1 (.t 68) (.c (.int .i64 0))),FA 69 18 3,NP (.store 1 (.t 69) (.c (.int .i64 0)))] 0 [3,6])) .skip))))))))) (SR [LT 70 24 3,SA 24 6 70] [6] .ret))),[.c 6 true 24]⟩
theorem ir:aK PG.P (aA PG.P 74 eU) 74=some eU:=by kernel_rfl
theorem DI {L:List Bool}(h:0<L.length):¬bg L=[]:=by cases L with | nil=>simp at h | cons a l=>simp[bg]
theorem MM {b:Int}(ok:aR s)(hv:aJ s p v)(h:∀T' v',ax T T' []->aJ (jS s b) (mI b p) v'->K v' T'):aj PG 73 [v,.int .u8 b] T K:=by
 obtain ⟨z1,z2,z3,k1,k2,k3,m,pr,d1,d2,d3,sv,rfl⟩:=hv
 obtain ⟨o1,o2,o3⟩:=sv.pa.one
 have hr:=ok.g.r
 have hc:=ok.g.c
 have hyr:=ok.y
 have hxr:=ok.x
 have hne:T.length+1≠T.length:=by omega
 unfold jS mI at h
 rcases Decidable.em (b=55) with b1 | b1
 ·rw[if_pos b1,if_neg (show ¬b=99 by omega)] at h
  unfold scD
  refine aj.aE FOk.nil dF (by simp[cg]) ?_
  unfold cg
  dsimp only
  simp -implicitDefEqProofs -dsimp only[ah,o1,o2,o3,eq_true b1,vcS,↓vcQ,simprocAttr]
  exact h _ _ (ax.app _ _ _) (aJ.of (s:={ s with sy:=s.y,sx:=s.x,eg:=s.attr}) ⟨sv.z1,sv.z2,sv.z3,sv.pa⟩)
 rw[if_neg b1] at h
 rcases Decidable.em (b=56) with b2 | b2
 ·rw[if_pos b2,if_neg (show ¬b=99 by omega)] at h
  unfold scD
  refine aj.aE FOk.nil dF (by simp[cg]) ?_
  unfold cg
  dsimp only
  simp -implicitDefEqProofs -dsimp only[ah,o1,o2,o3,eq_false b1,eq_true b2,vcS,↓vcQ,simprocAttr]
  exact h _ _ (ax.app _ _ _) (aJ.of (s:={ s with y:=s.sy,x:=s.sx,attr:=s.eg,wrap:=false}) ⟨sv.z1,sv.z2,sv.z3,sv.pa⟩)
 rw[if_neg b2] at h
 rcases Decidable.em (b=68) with b3 | b3
 ·rw[if_pos b3,if_neg (show ¬b=99 by omega)] at h
  unfold scD
  refine aj.aE FOk.nil dF (by simp[cg]) ?_
  unfold cg
  dsimp only
  simp -implicitDefEqProofs -dsimp only[ah,o1,o2,o3,eq_false b1,eq_false b2,eq_true b3,vcS,↓vcQ,simprocAttr]
  refine uw (s:=s) ok (aJ.of sv) fun T1 v' g1 hv'=>?_
  obtain ⟨y1,y2,y3,j1,j2,j3,m',pr',e1,e2,e3,sv',rfl⟩:=hv'
  obtain ⟨p1,p2,p3⟩:=sv'.pa.one
  unfold scD
  have hb1:=g1.at (aZ T [_] (some (Ob.box _))) (by simp)
  have hb2:=g1.at (bl T [_,some (Ob.box _)] 1) (by simp)
  simp -implicitDefEqProofs -dsimp only[ah,ai hb1,ai hb2,p1,p2,p3,vcS,↓vcQ,simprocAttr]
  have kk:ax T T1 []:=(ax.app T _ []).new g1 (by simp)
  have kf:=kk.put (o:=T.length+1) (Dd.ge (by omega))
  exact gI (kf _) fun k=>h _ _ k (aJ.of (s:=cH s) sv')
 rw[if_neg b3] at h
 rcases Decidable.em (b=69) with b4 | b4
 ·rw[if_pos b4,if_neg (show ¬b=99 by omega)] at h
  unfold scD
  refine aj.aE FOk.nil dF (by simp[cg]) ?_
  unfold cg
  dsimp only
  simp -implicitDefEqProofs -dsimp only[ah,o1,o2,o3,eq_false b1,eq_false b2,eq_false b3,eq_true b4,vcS,↓vcQ,simprocAttr]
  refine uw (s:=s) ok (aJ.of sv) fun T1 v' g1 hv'=>?_
  obtain ⟨y1,y2,y3,j1,j2,j3,m',pr',e1,e2,e3,sv',rfl⟩:=hv'
  obtain ⟨p1,p2,p3⟩:=sv'.pa.one
  unfold scD
  have hb1:=g1.at (aZ T [_] (some (Ob.box _))) (by simp)
  have hb2:=g1.at (bl T [_,some (Ob.box _)] 1) (by simp)
  simp -implicitDefEqProofs -dsimp only[ah,ai hb1,ai hb2,fun y=>ai (bn hb2 y hne),p1,p2,p3,List.set_set,vcS,↓vcQ,simprocAttr]
  have kk:ax T T1 []:=(ax.app T _ []).new g1 (by simp)
  have kf:=fun x y=>(kk.put (o:=T.length) (Dd.ge (Nat.le_refl _)) x).put (o:=T.length+1) (Dd.ge (by omega)) y
  exact gI (kf _ _) fun k=>h _ _ k (aJ.of (s:={ cH s with x:=0}) ⟨sv'.z1,sv'.z2,sv'.z3,sv'.pa⟩)
 rw[if_neg b4] at h
 rcases Decidable.em (b=77) with b5 | b5
 ·rw[if_pos b5,if_neg (show ¬b=99 by omega)] at h
  rcases Decidable.em (s.y=s.top) with hy | hy
  ·rw[if_pos hy] at h
   have hy':(s.y:Int)=s.top:=by omega
   unfold scD
   refine aj.aE FOk.nil dF (by simp[cg]) ?_
   unfold cg
   dsimp only
   simp -implicitDefEqProofs -dsimp only[ah,o1,o2,o3,eq_false b1,eq_false b2,eq_false b3,eq_false b4,eq_true b5,eq_true hy',vcS,↓vcQ,simprocAttr]
   refine DZ sv.z1 ok.g ok.tb ok.b fun T1 g1=>?_
   have hb1:=g1.at (aZ T [_] (some (Ob.box _))) (by simp)
   have hb2:=g1.at (bl T [_,some (Ob.box _)] 1) (by simp)
   simp -implicitDefEqProofs -dsimp only[ah,ai hb1,ai hb2,fun y=>ai (bn hb2 y hne),o1,o2,o3,vcS,↓vcQ,simprocAttr]
   have kk:ax T T1 []:=(ax.app T _ []).new g1 (by simp)
   have kf:=fun x y=>(kk.put (o:=T.length) (Dd.ge (Nat.le_refl _)) x).put (o:=T.length+1) (Dd.ge (by omega)) y
   exact gI (kf _ _) fun k=>h _ _ k (aJ.of (s:={ s with wrap:=false,cells:=dnF s.cells s.aa s.top s.bot 1}) ⟨rfl,sv.z2,sv.z3,sv.pa⟩)
  ·rw[if_neg hy] at h
   have hy':¬(s.y:Int)=s.top:=by omega
   have w1:IntKind.i64.wrap ((s.y:Int)-1)=(s.y:Int)-1:=aO (by omega) (by omega)
   rcases Nat.eq_zero_or_pos s.y with h0 | h0
   ·have h0':¬(0:Int)<s.y:=by omega
    unfold scD
    refine aj.aE FOk.nil dF (by simp[cg]) ?_
    unfold cg
    dsimp only
    simp -implicitDefEqProofs -dsimp only[ah,o1,o2,o3,eq_false b1,eq_false b2,eq_false b3,eq_false b4,eq_true b5,eq_false hy',eq_false h0',vcS,↓vcQ,simprocAttr]
    have e:(s.y:Int)=((s.y-1:Nat):Int):=by omega
    rw[e]
    exact h _ _ (ax.app _ _ _) (aJ.of (s:={ s with wrap:=false,y:=s.y-1}) ⟨sv.z1,sv.z2,sv.z3,sv.pa⟩)
   ·have h0':(0:Int)<s.y:=by omega
    have w1:IntKind.i64.wrap ((s.y:Int)-1)=((s.y-1:Nat):Int):=by rw[aO (by omega) (by omega)];omega
    unfold scD
    refine aj.aE FOk.nil dF (by simp[cg]) ?_
    unfold cg
    dsimp only
    simp -implicitDefEqProofs -dsimp only[ah,o1,o2,o3,eq_false b1,eq_false b2,eq_false b3,eq_false b4,eq_true b5,eq_false hy',eq_true h0',w1,vcS,↓vcQ,simprocAttr]
    exact h _ _ (ax.app _ _ _) (aJ.of (s:={ s with wrap:=false,y:=s.y-1}) ⟨sv.z1,sv.z2,sv.z3,sv.pa⟩)
 rw[if_neg b5] at h
 rcases Decidable.em (b=72) with b6 | b6
 ·rw[if_pos b6,if_neg (show ¬b=99 by omega)] at h
  have hz2:=sv.z2
  subst hz2
  have ht:=ok.aP
  have tn:=DI (L:=s.aP) (by omega)
  have tl:s.aP.length<=1000000:=by omega
  have h2':(s.x:Int)<(s.aP.length:Int):=by omega
  have i0:(0:Int)<=s.x:=by omega
  have hg:=fl (L:=s.aP) (i:=s.x) (by omega)
  have bY:=jg s.aP s.x true
  unfold scD
  refine aj.fq FOk.nil dF (by simp[cg]) ?_
  unfold cg
  dsimp only
  simp -implicitDefEqProofs -dsimp only[ah,o1,o2,o3,eq_false b1,eq_false b2,eq_false b3,eq_false b4,eq_false b5,eq_true b6,aY,tn,tl,eq_true (ov s.aP),h2',i0,hg,bY,Nat.zero_add,vcS,↓vcQ,simprocAttr]
  exact ⟨by omega,(TM (s:={ s with aP:=s.aP.set s.x true}) (q:=T.length+2) (n:=s.aP.length) (bl T [_,_,_] 2) (by simp) (ax.app T _ []) (by omega) ⟨sv.z1,rfl,sv.z3,sv.pa⟩ h).2⟩
 rw[if_neg b6] at h
 rcases Decidable.em (b=99) with b7 | b7
 ·rw[if_pos b7,if_pos b7] at h
  unfold scD
  refine aj.aE FOk.nil dF (by simp[cg]) ?_
  unfold cg
  dsimp only
  simp -implicitDefEqProofs -dsimp only[ah,o1,o2,o3,eq_false b1,eq_false b2,eq_false b3,eq_false b4,eq_false b5,eq_false b6,eq_true b7,vcS,↓vcQ,simprocAttr]
  refine Qj ok.g.r ok.g.c fun T1 v' g1 hv'=>?_
  obtain ⟨y1,y2,y3,j1,j2,j3,m',pr',e1,e2,e3,sv',rfl⟩:=hv'
  obtain ⟨p1,p2,p3⟩:=sv'.pa.one
  unfold scD
  have hb1:=g1.at (aZ T [_] (some (Ob.box _))) (by simp)
  have hb2:=g1.at (bl T [_,some (Ob.box _)] 1) (by simp)
  simp -implicitDefEqProofs -dsimp only[ah,ai hb1,ai hb2,fun y=>ai (bn hb2 y hne),p1,p2,p3,List.set_set,vcS,↓vcQ,simprocAttr]
  have kk:ax T T1 []:=(ax.app T _ []).new g1 (by simp)
  have kf:=fun x y=>(kk.put (o:=T.length) (Dd.ge (Nat.le_refl _)) x).put (o:=T.length+1) (Dd.ge (by omega)) y
  exact gI (kf _ _) fun k=>h _ _ k (aJ.of (s:=newF s.rows s.aa) sv')
 ·rw[if_neg b7,if_neg b7] at h
  unfold scD
  refine aj.aE FOk.nil dF (by simp[cg]) ?_
  unfold cg
  dsimp only
  simp -implicitDefEqProofs -dsimp only[ah,o1,o2,o3,eq_false b1,eq_false b2,eq_false b3,eq_false b4,eq_false b5,eq_false b6,eq_false b7,vcS,↓vcQ,simprocAttr]
  exact h _ _ (ax.app _ _ _) (aJ.of (s:=s) sv)
theorem LM {k:Int}{on:Bool}(ok:aR s)(hv:aJ s p v)(h:∀T' v',ax T T' []->aJ (eD on s k) p v'->K v' T'):aj PG 74 [v,.int .i64 k,.bool on] T K:=by
 obtain ⟨z1,z2,z3,k1,k2,k3,m,pr,d1,d2,d3,sv,rfl⟩:=hv
 obtain ⟨o1,o2,o3⟩:=sv.pa.one
 have hr:=ok.g.r
 have hc:=ok.g.c
 have hyr:=ok.y
 have hxr:=ok.x
 have hne:T.length+1≠T.length:=by omega
 unfold eD at h
 rcases Decidable.em (k=7) with b1 | b1
 ·rw[if_pos b1] at h
  unfold scD
  refine aj.aE FOk.nil ir (by simp[eU]) ?_
  unfold eU
  dsimp only
  simp -implicitDefEqProofs -dsimp only[ah,o1,o2,o3,eq_true b1,vcS,↓vcQ,simprocAttr]
  exact h _ _ (ax.app _ _ _) (aJ.of (s:={ s with auto:=on}) ⟨sv.z1,sv.z2,sv.z3,sv.pa⟩)
 rw[if_neg b1] at h
 rcases Decidable.em (k=25) with b2 | b2
 ·rw[if_pos b2] at h
  unfold scD
  refine aj.aE FOk.nil ir (by simp[eU]) ?_
  unfold eU
  dsimp only
  simp -implicitDefEqProofs -dsimp only[ah,o1,o2,o3,eq_false b1,eq_true b2,vcS,↓vcQ,simprocAttr]
  exact h _ _ (ax.app _ _ _) (aJ.of (s:={ s with shown:=on}) ⟨sv.z1,sv.z2,sv.z3,sv.pa⟩)
 rw[if_neg b2] at h
 rcases Decidable.em (k=1049) with b3 | b3
 ·cases hon:on with
  | true=>
   cases hal:s.alt with
   | false=>
    rw[hon,if_pos ⟨b3,rfl,hal⟩] at h
    have hrc:s.rows*s.aa=(dV s.rows s.aa).length:=by simp[dV]
    unfold scD
    refine aj.fq FOk.nil ir (by simp[eU]) ?_
    unfold eU
    dsimp only
    simp -implicitDefEqProofs -dsimp only[ah,o1,o2,o3,eq_false b1,eq_false b2,eq_true b3,hal,vcS,↓vcQ,simprocAttr]
    refine FU hr hc fun T1 q hq hA g1=>?_
    have hb1:=g1.at (aZ T [_] (some (Ob.box _))) (by simp)
    have hb2:=g1.at (bl T [_,some (Ob.box _)] 1) (by simp)
    simp -implicitDefEqProofs -dsimp only[ah,ai hb1,ai hb2,fun y=>ai (bn hb2 y hne),o1,o2,o3,List.set_set,vcS,↓vcQ,simprocAttr]
    have kk:ax T T1 []:=(ax.app T _ []).new g1 (by simp)
    have kf:=fun x y=>(kk.put (o:=T.length) (Dd.ge (Nat.le_refl _)) x).put (o:=T.length+1) (Dd.ge (by omega)) y
    have lq:=eI hA
    simp only[List.length_append,List.length_cons,List.length_nil] at hq
    have hA':=fun x y=>bn (bn hA (some (Ob.box x)) (show q≠T.length by omega)) (some (Ob.box y)) (show q≠T.length+1 by omega)
    exact Dr (s:={ s with other:=s.cells,oy:=s.y,ox:=s.x,alt:=true,wrap:=false,cells:=dV s.rows s.aa}) (hA' _ _) hrc (kf _ _) (by omega) ⟨rfl,sv.z2,.inl sv.z1,sv.pa⟩ h
   | true=>
    rw[hon,if_neg (by rw[hal];simp),if_neg (by simp)] at h
    unfold scD
    refine aj.aE FOk.nil ir (by simp[eU]) ?_
    unfold eU
    dsimp only
    simp -implicitDefEqProofs -dsimp only[ah,o1,o2,o3,eq_false b1,eq_false b2,eq_true b3,hal,vcS,↓vcQ,simprocAttr]
    rw[<-hal]
    exact h _ _ (ax.app _ _ _) (aJ.of (s:=s) sv)
  | false=>
   cases hal:s.alt with
   | true=>
    rw[hon,if_neg (by simp),if_pos ⟨b3,rfl,hal⟩] at h
    have z33:z3=3:=by
     rcases sv.z3 with e | e
     ·exact e
     ·exfalso
      have:=(ok.alt hal).lim.2
      rw[e] at this
      simp at this
    unfold scD
    refine aj.aE FOk.nil ir (by simp[eU]) ?_
    unfold eU
    dsimp only
    simp -implicitDefEqProofs -dsimp only[ah,o1,o2,o3,eq_false b1,eq_false b2,eq_true b3,hal,vcS,↓vcQ,simprocAttr]
    exact h _ _ (ax.app _ _ _) (aJ.of (s:={ s with cells:=s.other,y:=s.oy,x:=s.ox,alt:=false,wrap:=false,other:=[],oy:=0,ox:=0}) ⟨z33,sv.z2,.inr rfl,sv.pa⟩)
   | false=>
    rw[hon,if_neg (by simp),if_neg (by rw[hal];simp)] at h
    unfold scD
    refine aj.aE FOk.nil ir (by simp[eU]) ?_
    unfold eU
    dsimp only
    simp -implicitDefEqProofs -dsimp only[ah,o1,o2,o3,eq_false b1,eq_false b2,eq_true b3,hal,vcS,↓vcQ,simprocAttr]
    rw[<-hal]
    exact h _ _ (ax.app _ _ _) (aJ.of (s:=s) sv)
 ·rw[if_neg (fun e=>b3 e.1),if_neg (fun e=>b3 e.1)] at h
  unfold scD
  refine aj.aE FOk.nil ir (by simp[eU]) ?_
  unfold eU
  dsimp only
  simp -implicitDefEqProofs -dsimp only[ah,o1,o2,o3,eq_false b1,eq_false b2,eq_false b3,vcS,↓vcQ,simprocAttr]
  exact h _ _ (ax.app _ _ _) (aJ.of (s:=s) sv)
end
end Go.Proofs.YtjmnbpilnneonaaGreatDoor
