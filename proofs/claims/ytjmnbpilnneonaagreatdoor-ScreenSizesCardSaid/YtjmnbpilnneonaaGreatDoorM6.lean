/- Texts P23 in one. -/
import Derived.Test.YtjmnbpilnneonaaGreatDoorM5
import Derived.Test.YtjmnbpilnneonaaGreatDoorM3
set_option linter.unusedVariables false
set_option linter.unusedSimpArgs false
set_option maxRecDepth 10000
namespace Go.Proofs.YtjmnbpilnneonaaGreatDoor
open Go.RowKit
noncomputable def oW:RFn:=⟨1,16,(SR [OP 1 (.box 5 (.t 0)),OP 2 (.alloc [.int .i64 0,.int .u8 0,.sl 0 [] .nil,.sl 0 [] .nil,.sl 0 [] .nil])] [1,2] (.seq (.cJ (.take (FA 3 2 1) [] (.take (LD 4 3) [] (.take (FA 6 3 1) [] (.take (LD 7 6) [] (.take (FA 9 4 1) [] (.take (LD 10 9) [] (.op (OP 5 (.call 57 [.t 4])) (.alt (.op (OP 8 (.call 58 [.t 7])) (.alt (.mid ⟨some 11,.call 58 [.t 10],none,true⟩ (.take (FA 12 2 1) [] (.op (SA 1 12 5) (.take (FA 13 3 1) [] (.op (SA 1 13 8) (.take (FA 14 4 1) [] (.op (SA 1 14 11) .done))))))) (.op (FA 12 2 1) (.mid ⟨some 11,.call 58 [.t 10],none,true⟩ (.op (SA 1 12 5) (.take (FA 13 3 1) [] (.op (SA 1 13 8) (.take (FA 14 4 1) [] (.op (SA 1 14 11) .done))))))))) (.op (FA 12 2 1) (.op (OP 8 (.call 58 [.t 7])) (.mid ⟨some 11,.call 58 [.t 10],none,true⟩ (.op (SA 1 12 5) (.take (FA 13 3 1) [] (.op (SA 1 13 8) (.take (FA 14 4 1) [] (.op (SA 1 14 11) .done)))))))))))))))) 0 [1,2]) (SR [LT 15 5 1,SA 5 2 15] [2] .ret))),[.c 2 true 5]⟩
theorem BH:aK PG.P (aA PG.P 59 oW) 59=some oW:=by kernel_rfl
theorem M3 {m pr:Int}{p i u:DV}(hp:aD .i64 p)(hi:aD .u8 i)(hu:aD .u8 u)(hl:(aG p).length<=1000000/\(aG i).length<=1000000/\(aG u).length<=1000000) :
  av PG 59 [.agg [.int .i64 m,.int .u8 pr,p,i,u]] fun n r os=>r=.agg [.int .i64 m,.int .u8 pr,.own n 0 (aG p).length,.own (n+1) 0 (aG i).length,.sl 1 (af .u8 (aG u)) .any]/\
   os=[some (.arr 1 (af .i64 (aG p))),some (.arr 1 (af .u8 (aG i)))]:=by
 obtain ⟨s1,k1,e1,h1,g1⟩:=aC hp
 obtain ⟨s2,k2,e2,h2,g2⟩:=aC hi
 obtain ⟨s3,k3,e3,h3,g3⟩:=aC hu
 rw[e1,e2,e3]
 simp only[aL]
 generalize aG p=P at *
 generalize aG i=I at *
 generalize aG u=U at *
 refine av.di (res:=fun n=>(.agg [.int .i64 m,.int .u8 pr,.own n 0 P.length,.own (n+1) 0 I.length,.sl 1 (af .u8 U) .any],[some (.arr 1 (af .i64 P)),some (.arr 1 (af .u8 I))])) Lw BH (by simp[oW]) fun n=>?_
 unfold oW
 dsimp only
 have e1:aD .i64 (.sl s1 (af .i64 P) k1):=aQ h1 g1
 have e2:aD .u8 (.sl s2 (af .u8 I) k2):=aQ h2 g2
 have e3:aD .u8 (.sl s3 (af .u8 U) k3):=aQ h3 g3
 simp -implicitDefEqProofs -dsimp only[aas,e1,e2,e3,hl.1,hl.2.1,hl.2.2,List.take_length,gw,acN,vcR,↓vcQ,if_true,if_false,implies_true,simprocAttr,ne_eq,exists_eq_left,exists_eq_left',Function.comp_apply]
end Go.Proofs.YtjmnbpilnneonaaGreatDoor
