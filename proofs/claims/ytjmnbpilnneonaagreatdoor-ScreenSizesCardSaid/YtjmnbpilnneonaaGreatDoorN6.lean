/- Texts H7, H8 in one. -/
import Derived.Test.YtjmnbpilnneonaaGreatDoorN3
set_option linter.unusedVariables false
set_option linter.unusedSimpArgs false
set_option maxRecDepth 10000
namespace Go.Proofs.YtjmnbpilnneonaaGreatDoor
open Go.RowKit
noncomputable section
variable {T0 T:ay}{o:Nat}{s:Sc}{p:Pa}{a k:Int}{K:DV->ay->Prop}
def u9:RC:=(SR [BT 62 .lss 61 60] [0,2,6,7,60,61,62] (.seq (.cond (.t 62) .skip (.ext 1)) (.seq (.blk 2 (SR [MV 63 61,MV 8 63] [0,2,6,7,8,60,61] (.blk 3 (SR [MV 65 8,MV 66 0,OP 67 (.aF (.t 66)),FA 68 0 67,FA 69 3 68,LD 70 69,BT 71 .eql 65 70,MV 64 71] [0,2,6,7,8,60,61,64] (.cond (.t 64) (.cJ (.take (MV 72 0) [] (.take (MV 73 0) [] (.take (OP 74 (.aF (.t 73))) [] (.take (FA 75 0 74) [] (.take (FA 76 2 75) [] (.take (LD 77 76) [] (.take (MV 78 0) [] (.take (OP 79 (.aF (.t 78))) [] (.take (FA 80 0 79) [] (.take (FA 81 1 80) [] (.take (LD 82 81) [] (.take (MV 83 8) [] (.take (MV 84 6) [] (.take (MV 85 7) [] (.mid (OP 86 (.call 105 [.t 77,.t 82,.t 83,.t 84,.t 85])) (.take (OP 87 (.aF (.t 72))) [] (.take (FA 88 0 87) [] (.take (FA 89 2 88) [] (.op (SA 1 89 86) .done))))))))))))))))))) 0 [0,2,6,7,60,61]) (SR [MV 91 2,BI 92 .eql 91 2,MV 93 92,MG 94 2 93 false,OG 95 (.bin .eql (.t 94) (.c (.int .i64 0))) 93 false,MG 96 95 93 false,MG 97 8 96 true,MG 98 0 96 true,OG 99 (.aF (.t 98)) 96 true,FG 100 0 99 96 true,FG 101 3 100 96 true,LG 102 101 96 true,OG 103 (.bin .gtr (.t 97) (.t 102)) 96 true,OG 104 (.pick (.t 96) (.t 103) (.c (.bool false))) 93 false,OP 105 (.pick (.t 93) (.c (.bool true)) (.t 104)),MV 106 105,MG 107 2 106 false,OG 108 (.bin .eql (.t 107) (.c (.int .i64 1))) 106 false,MG 109 108 106 false,MG 110 8 109 true,MG 111 0 109 true,OG 112 (.aF (.t 111)) 109 true,FG 113 0 112 109 true,FG 114 3 113 109 true,LG 115 114 109 true,OG 116 (.bin .lss (.t 110) (.t 115)) 109 true,OG 117 (.pick (.t 109) (.t 116) (.c (.bool false))) 106 false,OP 118 (.pick (.t 106) (.c (.bool true)) (.t 117)),MV 90 118] [0,2,6,7,8,60,61,90] (.cond (.t 90) (.cJ (.take (MV 119 0) [] (.take (MV 120 0) [] (.take (OP 121 (.aF (.t 120))) [] (.take (FA 122 0 121) [] (.take (FA 123 2 122) [] (.take (LD 124 123) [] (.take (MV 125 0) [] (.take (OP 126 (.aF (.t 125))) [] (.take (FA 127 0 126) [] (.take (FA 128 1 127) [] (.take (LD 129 128) [] (.take (MV 130 8) [] (.take (MV 131 0) [] (.take (OP 132 (.aF (.t 131))) [] (.take (FA 133 0 132) [] (.take (FA 134 1 133) [] (.take (LD 135 134) [] (.mid (OP 136 (.call 105 [.t 124,.t 129,.t 130,.c (.int .i64 0),.t 135])) (.take (OP 137 (.aF (.t 119))) [] (.take (FA 138 0 137) [] (.take (FA 139 2 138) [] (.op (SA 1 139 136) .done)))))))))))))))))))))) 0 [0,2,6,7,60,61]) .skip))))))) (.reg [BI 140 .add 61 1,MV 61 140] 0 [0,2,6,7,60,61]))))
def iW:RC:=(SR [MV 56 0,OP 57 (.aF (.t 56)),FA 58 0 57,FA 59 0 58,LD 60 59,OP 61 (.mov (.c (.int .i64 0)))] [0,2,6,7,60,61] (.blk 1 (.loop u9)))
theorem yG (E:Prg)(F:dW)(n:Nat)(Q:Exit->St->Prop)(st:St):RC.wp E F n iW Q st=WpH E F n iW Q st:=ak _
def jq:RFn:=⟨3,141,.seq (.cJ (.take (MV 9 0) [] (.take (OP 10 (.aF (.t 9))) [] (.take (FA 11 0 10) [] (.take (FA 12 1 11) [] (.take (LD 13 12) [] (.take (OP 6 (.mov (.c (.int .i64 0)))) [] (.take (MV 7 13) [] .done))))))) 0 [0,1,2,6,7]) (.seq (SR [MV 14 2] [0,1,2,6,7,14] (.blk 0 (SR [BI 16 .eql 14 0,MV 15 16] [0,1,2,6,7,14,15] (.cond (.t 15) (.reg [MV 17 0,OP 18 (.aF (.t 17)),FA 19 0 18,FA 20 4 19,LD 21 20,MV 6 21] 0 [0,1,2,6,7]) (SR [BI 23 .eql 14 1,MV 22 23] [0,1,2,6,7,14,22] (.cond (.t 22) (.reg [MV 24 0,OP 25 (.aF (.t 24)),FA 26 0 25,FA 27 4 26,LD 28 27,BI 29 .add 28 1,MV 7 29] 0 [0,1,2,6,7]) (SR [BI 31 .eql 14 2,MV 30 31] [0,1,2,6,7,30] (.cond (.t 30) .skip .ret)))))))) (.seq (SR [MV 32 1,OP 33 (.bin .eql (.t 32) (.c (.int .u8 75)))] [0,2,6,7,33] (.cond (.t 33) (.seq (.cJ (.take (MV 34 0) [] (.take (MV 35 0) [] (.take (OP 36 (.aF (.t 35))) [] (.take (FA 37 0 36) [] (.take (FA 38 2 37) [] (.take (LD 39 38) [] (.take (MV 40 0) [] (.take (OP 41 (.aF (.t 40))) [] (.take (FA 42 0 41) [] (.take (FA 43 1 42) [] (.take (LD 44 43) [] (.take (MV 45 0) [] (.take (OP 46 (.aF (.t 45))) [] (.take (FA 47 0 46) [] (.take (FA 48 3 47) [] (.take (LD 49 48) [] (.take (MV 50 6) [] (.take (MV 51 7) [] (.mid (OP 52 (.call 105 [.t 39,.t 44,.t 49,.t 50,.t 51])) (.take (OP 53 (.aF (.t 34))) [] (.take (FA 54 0 53) [] (.take (FA 55 2 54) [] (.op (SA 1 55 52) .done))))))))))))))))))))))) 0 []) .ret) .skip)) iW)),[]⟩
theorem o6:aK PG.P (aA PG.P 101 jq) 101=some jq:=by kernel_rfl
def OX (s:Sc)(row:Bool)(k:Int):Sc:=
 if 0<=k/\k<=2 then { s with cells:=if row=true then kY s.cells s.aa s.y (ju s k) (toK s k) else gU s k s.rows} else s
theorem M9 {b:Int}(hk:¬(0<=k/\k<=2))(h:aB T0 T o s p)(hK:K (.tup []) T):aj PG 101 [.ptr o 0 0,.int .u8 b,.int .i64 k] T K:=by
 obtain ⟨k0,q,tq,od,m,pr,d1,d2,d3,pa,t⟩:=h
 have hb:=t.box
 unfold aN at hb
 have e0:¬k=0:=by omega
 have e1:¬k=1:=by omega
 have e2:¬k=2:=by omega
 refine aj.aE FOk.nil o6 (by simp[jq]) ?_
 unfold jq
 dsimp only
 simp -implicitDefEqProofs -dsimp only[ah,ai hb,eq_false e0,eq_false e1,eq_false e2,vcS,↓vcQ,simprocAttr]
 exact hK
theorem Jq {K:DV->ay->Prop}(hk:k=0\/k=1\/k=2)(ok:aR s)(h:aB T0 T o s p)(hK:∀T',T.length<=T'.length->aB T0 T' o { s with cells:=kY s.cells s.aa s.y (ju s k) (toK s k)} p->K (.tup []) T') :
  aj PG 101 [.ptr o 0 0,.int .u8 75,.int .i64 k] T K:=by
 obtain ⟨k0,q,tq,od,m,pr,d1,d2,d3,pa,t⟩:=h
 have hb:=t.box
 unfold aN at hb
 have hc:=ok.g.c
 have hx:=ok.x
 have w1:IntKind.i64.wrap ((s.x:Int)+1)=(s.x:Int)+1:=aO (by omega) (by omega)
 rcases hk with rfl | rfl | rfl
 all_goals
  refine aj.aE FOk.nil o6 (by simp[jq]) ?_
  unfold jq
  dsimp only
  simp -implicitDefEqProofs -dsimp only[ah,ai hb,w1,vcS,↓vcQ,simprocAttr]
  refine xu t.cells ok.g ok.y fun T' p hp hc k=>?_
  simp -implicitDefEqProofs -dsimp only[ah,ai (k.at hb (by simp)),vcS,↓vcQ,simprocAttr]
  exact ⟨by simpa using k.1,hK _ (by simpa using k.1) (.BS (s2:=s) pa k0 t k hp hc (jL ok.g ok.y) rfl rfl rfl)⟩
theorem Jr {fr to:Int}{K:ay->Prop}{Q:Exit->St->Prop}(hk:k=0\/k=1\/k=2)(ok:aR s)(h:aB T0 T o s p)(hf:fr=ju s k)(ht:to=toK s k)(hK:∀T',T.length<=T'.length->aB T0 T' o { s with cells:=gU s k s.rows} p->K T')
  (hQ:∀env T',K T'->Q .normal ⟨env,T'⟩):WpH PG (tab []) 141 iW Q ⟨[(0,.ptr o 0 0),(2,.int .i64 k),(6,.int .i64 fr),(7,.int .i64 to),(33,.bool false)],T⟩:=by
 obtain ⟨k0,q,tq,od,m,pr,d1,d2,d3,pa,t⟩:=id h
 have hb:=t.box
 unfold aN at hb
 have hr:=ok.g.r
 have hc:=ok.g.c
 unfold WpH iW
 simp -implicitDefEqProofs -dsimp only[ah,ai hb,vcS,↓vcQ,simprocAttr]
 refine bk.inv FOk.nil (S:=fun σ:Nat × ay=>⟨[(0,.ptr o 0 0),(2,.int .i64 k),(6,.int .i64 fr),(7,.int .i64 to),(60,.int .i64 s.rows),(61,.int .i64 σ.1)],σ.2⟩)
  (I:=fun σ=>σ.1<=s.rows/\T.length<=σ.2.length/\aB T0 σ.2 o { s with cells:=gU s k σ.1} p) (μ:=fun σ=>s.rows-σ.1) (0,T) ⟨by simp,Nat.le_refl _,h⟩ ?_ ?_
 ·simp -implicitDefEqProofs -dsimp only[an,vcS,↓vcQ,simprocAttr]
 ·intro ⟨i,A⟩ ⟨h1,h2,h3⟩
  dsimp only at h1 h2 h3 ⊢
  obtain ⟨k1,q1,tq1,od1,m1,pr1,f1,f2,f3,pa1,t1⟩:=id h3
  have hb1:=t1.box
  unfold aN at hb1
  dsimp only at hb1
  have gi:=xA ok k i h1
  unfold u9
  have w1:IntKind.i64.wrap ((i:Int)+1)=((i+1:Nat):Int):=by rw[aO (by omega) (by omega)];omega
  rcases Nat.lt_or_ge i s.rows with hlt | hge
  ·have hii:(i:Int)<s.rows:=by omega
   rcases Decidable.em (i=s.y) with c1 | c1
   ·have c1':(i:Int)=s.y:=by omega
    simp -implicitDefEqProofs -dsimp only[ah,ai hb1,hii,eq_true c1',w1,vcS,↓vcQ,simprocAttr]
    refine xu t1.cells gi hlt fun T' pp hp hc kk=>?_
    simp -implicitDefEqProofs -dsimp only[ah,ai (kk.at hb1 (by simp)),hii,eq_true c1',w1,an,vcS,↓vcQ,simprocAttr]
    have e:gU s k (i+1)=kY (gU s k i) s.aa i (ju s k) (toK s k):=by rw[gU,if_pos c1]
    refine ⟨(i+1,_),⟨rfl,aH _⟩,⟨hlt,by simpa using Nat.le_trans h2 kk.1, ?_⟩,by dsimp only;omega⟩
    rw[hf,ht] at hc
    dsimp only
    rw[e]
    exact .BS (s2:={ s with cells:=gU s k i}) pa1 k1 t1 kk hp hc (jL gi hlt) rfl rfl rfl
   ·have c1':¬(i:Int)=s.y:=by omega
    have skip:gU s k (i+1)=gU s k i->∃s':Nat × ay,(((i+1:Nat):Int)=(s'.1:Int)/\fu A s'.2)/\(s'.1<=s.rows/\T.length<=s'.2.length/\aB T0 s'.2 o { s with cells:=gU s k s'.1} p)/\s.rows-s'.1<s.rows-i:=fun e=>
     ⟨(i+1,A),⟨rfl,aH _⟩,⟨hlt,h2,by dsimp only;rw[e];exact h3⟩,by dsimp only;omega⟩
    have done:∀{T':ay} {pp:Nat},A.length<=pp->T'[pp]?=some (some (.arr 3 (aq (kY (gU s k i) s.aa i 0 s.aa))))->ax A T' []->gU s k (i+1)=kY (gU s k i) s.aa i 0 s.aa->
      ∃s':Nat × ay,(((i+1:Nat):Int)=(s'.1:Int)/\fu (T'.set o (some (.box (aN { s with cells:=gU s k i} pp tq1 od1 m1 pr1 f1 f2 f3)))) s'.2)/\(s'.1<=s.rows/\T.length<=s'.2.length/\aB T0 s'.2 o { s with cells:=gU s k s'.1} p)/\s.rows-s'.1<s.rows-i:=fun hp hc kk e=>
     ⟨(i+1,_),⟨rfl,aH _⟩,⟨hlt,by simpa using Nat.le_trans h2 kk.1,by dsimp only;rw[e];exact .BS (s2:={ s with cells:=gU s k i}) pa1 k1 t1 kk hp hc (jL gi hlt) rfl rfl rfl⟩,by dsimp only;omega⟩
    rcases hk with rfl | rfl | rfl
    ·rcases Nat.lt_or_ge s.y i with c2 | c2
     ·have c2':(s.y:Int)<i:=by omega
      simp -implicitDefEqProofs -dsimp only[ah,ai hb1,hii,eq_false c1',c2',w1,vcS,↓vcQ,simprocAttr]
      refine xu t1.cells gi hlt fun T' pp hp hc kk=>?_
      simp -implicitDefEqProofs -dsimp only[ah,ai (kk.at hb1 (by simp)),hii,w1,an,vcS,↓vcQ,simprocAttr]
      exact done hp hc kk (by rw[gU,if_neg c1,if_pos (.inr (.inl ⟨rfl,c2⟩))])
     ·have c2':¬(s.y:Int)<i:=by omega
      simp -implicitDefEqProofs -dsimp only[ah,ai hb1,hii,eq_false c1',c2',w1,an,vcS,↓vcQ,simprocAttr]
      exact skip (by rw[gU,if_neg c1,if_neg (by omega)])
    ·rcases Nat.lt_or_ge i s.y with c2 | c2
     ·have c2':(i:Int)<s.y:=by omega
      simp -implicitDefEqProofs -dsimp only[ah,ai hb1,hii,eq_false c1',c2',w1,vcS,↓vcQ,simprocAttr]
      refine xu t1.cells gi hlt fun T' pp hp hc kk=>?_
      simp -implicitDefEqProofs -dsimp only[ah,ai (kk.at hb1 (by simp)),hii,w1,an,vcS,↓vcQ,simprocAttr]
      exact done hp hc kk (by rw[gU,if_neg c1,if_pos (.inr (.inr ⟨rfl,c2⟩))])
     ·have c2':¬(i:Int)<s.y:=by omega
      simp -implicitDefEqProofs -dsimp only[ah,ai hb1,hii,eq_false c1',c2',w1,an,vcS,↓vcQ,simprocAttr]
      exact skip (by rw[gU,if_neg c1,if_neg (by omega)])
    ·simp -implicitDefEqProofs -dsimp only[ah,ai hb1,hii,eq_false c1',w1,vcS,↓vcQ,simprocAttr]
     refine xu t1.cells gi hlt fun T' pp hp hc kk=>?_
     simp -implicitDefEqProofs -dsimp only[ah,ai (kk.at hb1 (by simp)),hii,w1,an,vcS,↓vcQ,simprocAttr]
     exact done hp hc kk (by rw[gU,if_neg c1,if_pos (.inl rfl)])
  ·have hii:¬(i:Int)<s.rows:=by omega
   obtain rfl:i=s.rows:=by omega
   simp -implicitDefEqProofs -dsimp only[ah,hii,an,vcS,↓vcQ,simprocAttr]
   exact hQ _ _ (hK _ h2 h3)
theorem Js {K:DV->ay->Prop}(hk:k=0\/k=1\/k=2)(ok:aR s)(h:aB T0 T o s p)(hK:∀T',T.length<=T'.length->aB T0 T' o { s with cells:=gU s k s.rows} p->K (.tup []) T') :
  aj PG 101 [.ptr o 0 0,.int .u8 74,.int .i64 k] T K:=by
 obtain ⟨k0,q,tq,od,m,pr,d1,d2,d3,pa,t⟩:=id h
 have hb:=t.box
 unfold aN at hb
 have hc:=ok.g.c
 have hx:=ok.x
 have w1:IntKind.i64.wrap ((s.x:Int)+1)=(s.x:Int)+1:=aO (by omega) (by omega)
 have hk':=hk
 rcases hk with rfl | rfl | rfl
 all_goals
  refine aj.aE FOk.nil o6 (by simp[jq]) ?_
  unfold jq
  dsimp only
  simp -implicitDefEqProofs -dsimp only[ah,ai hb,w1,↓yG,vcS,↓vcQ,simprocAttr]
  exact Jr (K:=fun T'=>T.length<=T'.length/\K (.tup []) T') hk' ok h rfl rfl (fun T' l t'=>⟨l,hK T' l t'⟩) fun _ _ h=>h
theorem Gc {row:Bool}(ok:aR s)(h:aB T0 T o s p)(hK:∀T',T.length<=T'.length->aB T0 T' o (OX s row k) p->K (.tup []) T') :
  aj PG 101 [.ptr o 0 0,.int .u8 (if row=true then 75 else 74),.int .i64 k] T K:=by
 unfold OX at hK
 rcases Decidable.em (0<=k/\k<=2) with hk | hk
 ·rw[if_pos hk] at hK
  cases row with
  | true=>exact Jq (by omega) ok h hK
  | false=>exact Js (by omega) ok h hK
 ·rw[if_neg hk] at hK
  exact M9 hk h (hK _ (Nat.le_refl _) h)
def jF:RC:=(SR [BT 15 .lss 14 13] [2,4,12,13,14,15] (.seq (.cond (.t 15) .skip (.ext 0)) (.seq (.blk 1 (SR [OP 16 (.aT 1 (.t 12) (.t 14)),LD 17 16,MV 6 17] [2,4,6,12,13,14] (.blk 2 (SR [MV 19 6,BI 20 .eql 19 0,MV 18 20] [2,4,6,12,13,14,18] (.cond (.t 18) (.reg [LD 21 2,OP 22 (.aF (.t 21)),FA 23 0 22,FA 24 6 23,NP (.store 1 (.t 24) (.c (.int .u16 0)))] 0 [2,4,12,13,14]) (SR [MV 26 6,BI 27 .eql 26 1,MV 25 27] [2,4,6,12,13,14,25] (.cond (.t 25) (.reg [LD 28 2,OP 29 (.aF (.t 28)),FA 30 0 29,FA 31 6 30,LD 32 31,OP 33 (.bin .or (.t 32) (.c (.int .u16 1))),OP 34 (.aF (.t 28)),FA 35 0 34,FA 36 6 35,SA 1 36 33] 0 [2,4,12,13,14]) (SR [MV 38 6,BI 39 .eql 38 4,MV 37 39] [2,4,6,12,13,14,37] (.cond (.t 37) (.reg [LD 40 2,OP 41 (.aF (.t 40)),FA 42 0 41,FA 43 6 42,LD 44 43,OP 45 (.bin .or (.t 44) (.c (.int .u16 2))),OP 46 (.aF (.t 40)),FA 47 0 46,FA 48 6 47,SA 1 48 45] 0 [2,4,12,13,14]) (SR [MV 50 6,BI 51 .eql 50 7,MV 49 51] [2,4,6,12,13,14,49] (.cond (.t 49) (.reg [LD 52 2,OP 53 (.aF (.t 52)),FA 54 0 53,FA 55 6 54,LD 56 55,OP 57 (.bin .or (.t 56) (.c (.int .u16 4))),OP 58 (.aF (.t 52)),FA 59 0 58,FA 60 6 59,SA 1 60 57] 0 [2,4,12,13,14]) (SR [MV 62 6,BI 63 .eql 62 22,MV 61 63] [2,4,6,12,13,14,61] (.cond (.t 61) (.reg [LD 64 2,OP 65 (.aF (.t 64)),FA 66 0 65,FA 67 6 66,LD 68 67,OP 69 (.bin .andNot (.t 68) (.c (.int .u16 1))),OP 70 (.aF (.t 64)),FA 71 0 70,FA 72 6 71,SA 1 72 69] 0 [2,4,12,13,14]) (SR [MV 74 6,BI 75 .eql 74 24,MV 73 75] [2,4,6,12,13,14,73] (.cond (.t 73) (.reg [LD 76 2,OP 77 (.aF (.t 76)),FA 78 0 77,FA 79 6 78,LD 80 79,OP 81 (.bin .andNot (.t 80) (.c (.int .u16 2))),OP 82 (.aF (.t 76)),FA 83 0 82,FA 84 6 83,SA 1 84 81] 0 [2,4,12,13,14]) (SR [MV 86 6,BI 87 .eql 86 27,MV 85 87] [2,4,6,12,13,14,85] (.cond (.t 85) (.reg [LD 88 2,OP 89 (.aF (.t 88)),FA 90 0 89,FA 91 6 90,LD 92 91,OP 93 (.bin .andNot (.t 92) (.c (.int .u16 4))),OP 94 (.aF (.t 88)),FA 95 0 94,FA 96 6 95,SA 1 96 93] 0 [2,4,12,13,14]) (SR [MV 98 6,BI 99 .geq 98 30,MV 100 99,MG 101 6 100 true,OG 102 (.bin .leq (.t 101) (.c (.int .i64 37))) 100 true,OP 103 (.pick (.t 100) (.t 102) (.c (.bool false))),MV 97 103] [2,4,6,12,13,14,97] (.cond (.t 97) (.reg [MV 104 4,MV 105 6,BI 106 .sub 105 29,OP 107 (.iP (.t 104) [.c (.int .i64 4),.t 106])] 0 [2,4,12,13,14]) (SR [MV 109 6,BI 110 .eql 109 39,MV 108 110] [2,4,6,12,13,14,108] (.cond (.t 108) (.reg [MV 111 4,OP 112 (.iP (.t 111) [.c (.int .i64 4),.c (.int .i64 0)])] 0 [2,4,12,13,14]) (SR [MV 114 6,BI 115 .geq 114 40,MV 116 115,MG 117 6 116 true,OG 118 (.bin .leq (.t 117) (.c (.int .i64 47))) 116 true,OP 119 (.pick (.t 116) (.t 118) (.c (.bool false))),MV 113 119] [2,4,6,12,13,14,113] (.cond (.t 113) (.reg [MV 120 4,MV 121 6,BI 122 .sub 121 39,OP 123 (.iP (.t 120) [.c (.int .i64 8),.t 122])] 0 [2,4,12,13,14]) (SR [MV 125 6,BI 126 .eql 125 49,MV 124 126] [2,4,12,13,14,124] (.cond (.t 124) (.reg [MV 127 4,OP 128 (.iP (.t 127) [.c (.int .i64 8),.c (.int .i64 0)])] 0 [2,4,12,13,14]) .skip))))))))))))))))))))))))) (.reg [BI 129 .add 14 1,MV 14 129] 0 [2,4,12,13,14]))))
def rX:RFn:=⟨2,130,(SR [OP 2 (.box 1 (.t 0))] [1,2] (.seq (SR [MV 7 1,OP 8 (.len (.t 7)),BI 9 .eql 8 0] [1,2,9] (.cond (.t 9) (.reg [OP 10 (.bK 1 [.int .i64 0] 1 [(0,(.c (.int .i64 0)))]),MV 1 10] 0 [1,2]) .skip)) (SR [OP 11 (.xg 133 [.t 2]),MV 4 11] [1,2,4] (SR [MV 12 1,OP 13 (.len (.t 12)),OP 14 (.mov (.c (.int .i64 0)))] [2,4,12,13,14] (.blk 0 (.loop jF)))))),[]⟩
theorem Er:aK PG.P (aA PG.P 108 rX) 108=some rX:=by kernel_rfl
def o7:RFn:=⟨2,22,.cJ (.take (LD 5 2) [] (.take (LD 6 2) [] (.take (OP 7 (.aF (.t 6))) [] (.take (FA 8 0 7) [] (.take (FA 9 6 8) [] (.take (LD 10 9) [] (.take (MV 11 0) [] (.take (OP 12 (.bin .shl (.c (.int .u16 15)) (.t 11))) [] (.take (BT 13 .andNot 10 12) [] (.take (MV 14 1) [] (.take (OP 15 (.conv (.i2i .u16) (.t 14))) [] (.take (MV 16 0) [] (.take (BT 17 .shl 15 16) [] (.take (BT 18 .or 13 17) [] (.take (OP 19 (.aF (.t 5))) [] (.take (FA 20 0 19) [] (.take (FA 21 6 20) [] (.op (SA 1 21 18) .done)))))))))))))))))) 0 [],[]⟩
theorem BK:aK PG.P (aA PG.P 133 o7) 133=some o7:=by kernel_rfl
theorem ofInt16 (h:0<=a/\a<=65535):(BitVec.ofInt IntKind.u16.bits a).toNat=a.toNat:=by
 have:=js IntKind.u16.bits a
 rw[Int.emod_eq_of_lt h.1 (by show a<2 ^ 16;omega)] at this
 omega
theorem By {n:Int}(h0:0<=n)(h1:n<=65535):IntKind.u16.wrap n=n:=by
 unfold IntKind.wrap
 simp only[show IntKind.u16.bits=16 from rfl,show IntKind.u16.signed=false from rfl]
 simp
 omega
theorem BR {b:Int}(ha:0<=a/\a<=65535)(hb:0<=b/\b<=65535):IntKind.u16.wrap ((BitVec.ofInt IntKind.u16.bits a ||| BitVec.ofInt IntKind.u16.bits b).toNat:Nat)=mY a b:=by
 have:=Fc ha hb
 rw[BitVec.toNat_or,ofInt16 ha,ofInt16 hb]
 exact By this.1 this.2
theorem th (m:Nat)(hm:(~~~ BitVec.ofInt IntKind.u16.bits (m:Int)).toNat=65535 ^^^ m)(ha:0<=a/\a<=65535):IntKind.u16.wrap ((BitVec.ofInt IntKind.u16.bits a &&& ~~~ BitVec.ofInt IntKind.u16.bits (m:Int)).toNat:Nat)=jB a m:=by
 have:=nu (m:=m) ha
 rw[BitVec.toNat_and,ofInt16 ha,hm]
 exact By this.1 this.2
theorem ab9 (ha:0<=a/\a<=65535):mY a 0=a:=by unfold mY;simp;omega
def ab0 (s:Sc)(at' c:Int):Sc:={ s with attr:=if at'=4 then mY (jB s.attr 0xf0) (c*16) else mY (jB s.attr 0xf00) (c*256)}
theorem wJ {b:Nat}{c:Int}(hs:0<=s.attr/\s.attr<=65535)(hc:0<=c/\c<=8)(h:aB T0 T o s p)(ha:a=4\/a=8)(hb:T[b]?=some (some (.box [.ptr o 0 0])))
  (hK:∀T',T.length<=T'.length->ax T T' [o]->aB T0 T' o (ab0 s a c) p->K (.tup []) T'):aj PG 133 [.int .i64 a,.int .i64 c,.ptr b 0 0] T K:=by
 obtain ⟨k0,q,tq,od,m,pr,d1,d2,d3,pa,t⟩:=h
 have hbo:=t.box
 unfold aN at hbo
 have w4:IntKind.u16.wrap (15*2 ^ min 4 IntKind.u16.bits)=240:=by decide
 have w8:IntKind.u16.wrap (15*2 ^ min 8 IntKind.u16.bits)=3840:=by decide
 have c4:=th (a:=s.attr) 240 (by decide) hs
 have c8:=th (a:=s.attr) 3840 (by decide) hs
 have wc:IntKind.u16.wrap c=c:=By hc.1 (by omega)
 have s4:IntKind.u16.wrap (c*2 ^ min 4 IntKind.u16.bits)=c*16:=By (by show 0<=c*16;omega) (by show c*16<=65535;omega)
 have s8:IntKind.u16.wrap (c*2 ^ min 8 IntKind.u16.bits)=c*256:=By (by show 0<=c*256;omega) (by show c*256<=65535;omega)
 have o4:=BR (nu (m:=240) hs) (show 0<=c*16/\c*16<=65535 by omega)
 have o8:=BR (nu (m:=3840) hs) (show 0<=c*256/\c*256<=65535 by omega)
 have c4':IntKind.u16.wrap ((BitVec.ofInt IntKind.u16.bits s.attr &&& ~~~ BitVec.ofInt IntKind.u16.bits 240).toNat:Nat)=jB s.attr 240:=c4
 have c8':IntKind.u16.wrap ((BitVec.ofInt IntKind.u16.bits s.attr &&& ~~~ BitVec.ofInt IntKind.u16.bits 3840).toNat:Nat)=jB s.attr 3840:=c8
 rcases ha with rfl | rfl
 all_goals
  refine aj.aE FOk.nil BK (by simp[o7]) ?_
  unfold o7
  dsimp only
  simp -implicitDefEqProofs -dsimp only[ah,ai hb,ai hbo,show ¬(4:Int)<0 by decide,show ¬(8:Int)<0 by decide,show (4:Int).toNat=4 from rfl,show (8:Int).toNat=8 from rfl,w4,w8,wc,s4,s8,c4',c8',o4,o8,vcS,↓vcQ,simprocAttr]
  exact ⟨by simp,hK _ (by simp) (ax.set T o _) (.mk (k0.put t.no _) pa (t.put rfl rfl rfl rfl rfl))⟩
theorem Ot (s:Sc)(hs:s.attr=a):(30<=k/\k<=37->(ab0 s 4 (k-29)).attr=bR a k)/\(40<=k/\k<=47->(ab0 s 8 (k-39)).attr=bR a k):=by
 subst hs
 refine ⟨fun h=>?_,fun h=>?_⟩
 ·unfold bR
  rw[if_neg (by omega),if_neg (by omega),if_neg (by omega),if_neg (by omega),if_neg (by omega),if_neg (by omega),if_neg (by omega),if_pos h]
  rfl
 ·unfold bR
  rw[if_neg (by omega),if_neg (by omega),if_neg (by omega),if_neg (by omega),if_neg (by omega),if_neg (by omega),if_neg (by omega),if_neg (by omega),if_neg (by omega),if_pos h]
  rfl
theorem An {ps:List Int}{i:Nat}(hi:i<ps.length):(ps.take (i+1)).foldl bR a=bR ((ps.take i).foldl bR a) (ps.getD i 0):=by
 rw[List.take_succ_eq_append_getElem hi,List.foldl_append]
 simp[List.getD_eq_getElem?_getD,hi]
theorem Na {b:Nat}   {sz : Nat} {sk : SK} {ps : List Int} {K : ay -> Prop} {Q : Exit -> St -> Prop} (hs : sz = 1 \/ ps = []) (abx : ∀ k ∈ ps, 0 <= k /\ k <= 65535) (hl : ps.length <= 1000000) (ok : aR s) (hb : T[b]? = some (some (.box [.ptr o 0 0]))) (hbo : b ≠ o) (h : aB T0 T o s p)
    (hK : ∀ T', T.length <= T'.length -> aB T0 T' o { s with attr := ps.foldl bR s.attr } p -> K T') (hQ : ∀ env T', K T' -> Q .normal ⟨env, T'⟩) :
    bk PG 130 jF (vP 0 Q) ⟨[(2, .ptr b 0 0), (4, .wrap (.clo 133) [.ptr b 0 0]), (12, .sl sz (af .i64 ps) sk), (13, .int .i64 ps.length), (14, .int .i64 0)], T⟩ := by
  refine bk.inv FOk.nil (S := fun σ : Nat × ay => ⟨[(2, .ptr b 0 0), (4, .wrap (.clo 133) [.ptr b 0 0]), (12, .sl sz (af .i64 ps) sk), (13, .int .i64 ps.length), (14, .int .i64 σ.1)], σ.2⟩)
    (I := fun σ => σ.1 <= ps.length /\ T.length <= σ.2.length /\ σ.2[b]? = some (some (.box [.ptr o 0 0])) /\ aB T0 σ.2 o { s with attr := (ps.take σ.1).foldl bR s.attr } p) (μ := fun σ => ps.length - σ.1) (0, T) ⟨by simp, Nat.le_refl _, hb, h⟩ ?_ ?_
  · simp -implicitDefEqProofs -dsimp only[an, vcS, ↓vcQ, simprocAttr]
  · intro ⟨i, A⟩ ⟨h1, h2, h3, h4⟩
    dsimp only at h1 h2 h3 h4 ⊢
    have ha0 := vK (ps := ps.take i) ok.at'
    have hst := fun hi => An (a := s.attr) (i := i) (ps := ps) hi
    have eV : ps.length <= i -> (ps.take i).foldl bR s.attr = ps.foldl bR s.attr := fun hh => by rw[List.take_of_length_le hh]
    generalize (ps.take i).foldl bR s.attr = a at *
    obtain ⟨k1, q1, tq1, od1, m1, pr1, f1, f2, f3, pa1, t1⟩ := id h4
    have hb1 := t1.box
    unfold aN at hb1
    dsimp only at hb1
    have w1 : IntKind.i64.wrap ((i : Int) + 1) = ((i + 1 : Nat) : Int) := by rw[aO (by omega) (by omega)]; omega
    have Ty : fR PG.P 133 = true := by kernel_rfl
    rcases Nat.lt_or_ge i ps.length with hlt | hge
    · have hii : (i : Int) < ps.length := by omega
      have i0 : (0 : Int) <= i := by omega
      have hsz : sz = 1 := by rcases hs with h | h; exact h; subst h; simp at hlt
      subst hsz
      have hg : (af .i64 ps)[i]? = some [.int .i64 (ps.getD i 0)] := by simp[af, hlt]
      have hlr : (af .i64 ps).length = ps.length := by simp[af]
      have hr : 0 <= ps.getD i 0 /\ ps.getD i 0 <= 65535 := abx _ (by simp[List.getD_eq_getElem?_getD, hlt])
      have hst := hst hlt
      generalize ps.getD i 0 = k at *
      have done : ∀ {A' : ay} {v : Int}, v = bR a k -> A.length <= A'.length -> A'[b]? = some (some (.box [.ptr o 0 0])) -> aB T0 A' o { s with attr := v } p ->
          ∃ s' : Nat × ay, (((i + 1 : Nat) : Int) = (s'.1 : Int) /\ fu A' s'.2) /\ (s'.1 <= ps.length /\ T.length <= s'.2.length /\ s'.2[b]? = some (some (.box [.ptr o 0 0])) /\ aB T0 s'.2 o { s with attr := (ps.take s'.1).foldl bR s.attr } p) /\ ps.length - s'.1 < ps.length - i := fun hv hl hbb ht =>
        ⟨(i + 1, _), ⟨rfl, aH _⟩, ⟨hlt, Nat.le_trans h2 hl, hbb, by dsimp only; rw[hst, <- hv]; exact ht⟩, by dsimp only; omega⟩
      have put : ∀ {v : Int}, v = bR a k -> ∃ s' : Nat × ay, (((i + 1 : Nat) : Int) = (s'.1 : Int) /\ fu (A.set o (some (.box (aN { s with attr := v } q1 tq1 od1 m1 pr1 f1 f2 f3)))) s'.2) /\ (s'.1 <= ps.length /\ T.length <= s'.2.length /\ s'.2[b]? = some (some (.box [.ptr o 0 0])) /\ aB T0 s'.2 o { s with attr := (ps.take s'.1).foldl bR s.attr } p) /\ ps.length - s'.1 < ps.length - i := fun hv =>
        done hv (by simp) (bn h3 _ hbo) (.mk (k1.put t1.no _) pa1 (t1.put rfl rfl rfl rfl rfl))
      have o1 := BR ha0 (show 0 <= (1 : Int) /\ (1 : Int) <= 65535 by omega)
      have o2 := BR ha0 (show 0 <= (2 : Int) /\ (2 : Int) <= 65535 by omega)
      have o4 := BR ha0 (show 0 <= (4 : Int) /\ (4 : Int) <= 65535 by omega)
      have c1 : IntKind.u16.wrap ((BitVec.ofInt IntKind.u16.bits a &&& ~~~ BitVec.ofInt IntKind.u16.bits 1).toNat : Nat) = jB a 1 := th 1 (by decide) ha0
      have c2 : IntKind.u16.wrap ((BitVec.ofInt IntKind.u16.bits a &&& ~~~ BitVec.ofInt IntKind.u16.bits 2).toNat : Nat) = jB a 2 := th 2 (by decide) ha0
      have c4 : IntKind.u16.wrap ((BitVec.ofInt IntKind.u16.bits a &&& ~~~ BitVec.ofInt IntKind.u16.bits 4).toNat : Nat) = jB a 4 := th 4 (by decide) ha0
      have wk1 : IntKind.i64.wrap (k - 29) = k - 29 := aO (by omega) (by omega)
      have wk2 : IntKind.i64.wrap (k - 39) = k - 39 := aO (by omega) (by omega)
      have lc := Ot (k := k) { s with attr := a } rfl
      unfold jF
      rcases (show (k = 0 \/ k = 1 \/ k = 4 \/ k = 7 \/ k = 22 \/ k = 24 \/ k = 27 \/ k = 39 \/ k = 49) \/ (30 <= k /\ k <= 37) \/ (40 <= k /\ k <= 47) \/ (k ≠ 0 /\ k ≠ 1 /\ k ≠ 4 /\ k ≠ 7 /\ k ≠ 22 /\ k ≠ 24 /\ k ≠ 27 /\ ¬ (30 <= k /\ k <= 37) /\ k ≠ 39 /\ ¬ (40 <= k /\ k <= 47) /\ k ≠ 49) by omega) with hk | hk | hk | hk
      · rcases hk with rfl | rfl | rfl | rfl | rfl | rfl | rfl | rfl | rfl
        all_goals
          simp -implicitDefEqProofs -dsimp only[ah, ai hb1, ai h3, hii, i0, hg, hlr, w1, o1, o2, o4, c1, c2, c4, Ty, bh, aX, an, vcS, ↓vcQ, simprocAttr]
          first
            | exact put rfl
            | (refine wJ (T0 := T0) (s := { s with attr := a }) (p := p) ha0 (by omega) h4 (by omega) h3 fun T' l kk t' => ?_
               simp -implicitDefEqProofs -dsimp only[ah, w1, an, vcS, ↓vcQ, simprocAttr]
               exact done (by show mY _ _ = _; simp only[Int.zero_mul]; rw[ab9 (nu ha0)]; rfl) l (kk.at h3 (by simpa using hbo)) t')
            | skip
      · have n0 : ¬ k = 0 := by omega
        have n1 : ¬ k = 1 := by omega
        have n4 : ¬ k = 4 := by omega
        have n7 : ¬ k = 7 := by omega
        have n22 : ¬ k = 22 := by omega
        have n24 : ¬ k = 24 := by omega
        have n27 : ¬ k = 27 := by omega
        simp -implicitDefEqProofs -dsimp only[ah, ai hb1, ai h3, hii, i0, hg, hlr, w1, eq_false n0, eq_false n1, eq_false n4, eq_false n7, eq_false n22, eq_false n24, eq_false n27, hk.1, hk.2, wk1, Ty, bh, aX, an, vcS, ↓vcQ, simprocAttr]
        refine wJ (T0 := T0) (s := { s with attr := a }) (p := p) ha0 (by omega) h4 (.inl rfl) h3 fun T' l kk t' => ?_
        simp -implicitDefEqProofs -dsimp only[ah, w1, an, vcS, ↓vcQ, simprocAttr]
        exact done (lc.1 hk) l (kk.at h3 (by simpa using hbo)) t'
      · have n0 : ¬ k = 0 := by omega
        have n1 : ¬ k = 1 := by omega
        have n4 : ¬ k = 4 := by omega
        have n7 : ¬ k = 7 := by omega
        have n22 : ¬ k = 22 := by omega
        have n24 : ¬ k = 24 := by omega
        have n27 : ¬ k = 27 := by omega
        have n37 : ¬ k <= 37 := by omega
        have n30 : 30 <= k := by omega
        have n39 : ¬ k = 39 := by omega
        simp -implicitDefEqProofs -dsimp only[ah, ai hb1, ai h3, hii, i0, hg, hlr, w1, eq_false n0, eq_false n1, eq_false n4, eq_false n7, eq_false n22, eq_false n24, eq_false n27, n30, n37, eq_false n39, hk.1, hk.2, wk2, Ty, bh, aX, an, vcS, ↓vcQ, simprocAttr]
        refine wJ (T0 := T0) (s := { s with attr := a }) (p := p) ha0 (by omega) h4 (.inr rfl) h3 fun T' l kk t' => ?_
        simp -implicitDefEqProofs -dsimp only[ah, w1, an, vcS, ↓vcQ, simprocAttr]
        exact done (lc.2 hk) l (kk.at h3 (by simpa using hbo)) t'
      · obtain ⟨n0, n1, n4, n7, n22, n24, n27, n30, n39, n40, n49⟩ := hk
        have e : bR a k = a := by unfold bR; rw[if_neg n0, if_neg n1, if_neg n4, if_neg n7, if_neg n22, if_neg n24, if_neg n27, if_neg n30, if_neg n39, if_neg n40, if_neg n49]
        have d3 : ∀ x y : Bool, (x && y) = decide (x = true /\ y = true) := fun x y => by simp
        rcases Decidable.em (30 <= k) with a1 | a1
        · have a2 : ¬ k <= 37 := fun h => n30 ⟨a1, h⟩
          rcases Decidable.em (40 <= k) with b1 | b1
          · have b2 : ¬ k <= 47 := fun h => n40 ⟨b1, h⟩
            simp -implicitDefEqProofs -dsimp only[ah, ai hb1, ai h3, hii, i0, hg, hlr, w1, eq_false n0, eq_false n1, eq_false n4, eq_false n7, eq_false n22, eq_false n24, eq_false n27, a1, a2, eq_false n39, b1, b2, eq_false n49, an, vcS, ↓vcQ, simprocAttr]
            exact done e.symm (Nat.le_refl _) h3 h4
          · simp -implicitDefEqProofs -dsimp only[ah, ai hb1, ai h3, hii, i0, hg, hlr, w1, eq_false n0, eq_false n1, eq_false n4, eq_false n7, eq_false n22, eq_false n24, eq_false n27, a1, a2, eq_false n39, b1, eq_false n49, an, vcS, ↓vcQ, simprocAttr]
            exact done e.symm (Nat.le_refl _) h3 h4
        · have b1 : ¬ 40 <= k := by omega
          simp -implicitDefEqProofs -dsimp only[ah, ai hb1, ai h3, hii, i0, hg, hlr, w1, eq_false n0, eq_false n1, eq_false n4, eq_false n7, eq_false n22, eq_false n24, eq_false n27, a1, eq_false n39, b1, eq_false n49, an, vcS, ↓vcQ, simprocAttr]
          exact done e.symm (Nat.le_refl _) h3 h4
    · have hii : ¬ (i : Int) < ps.length := by omega
      obtain rfl : i = ps.length := by omega
      unfold jF
      simp -implicitDefEqProofs -dsimp only[ah, hii, an, vcS, ↓vcQ, simprocAttr]
      rw[eV (Nat.le_refl _)] at h4
      exact hQ _ _ (hK _ h2 h4)
theorem Q4 {sz:Nat}{sk:SK}{ps:List Int}{K:DV->ay->Prop}(hs:sz=1\/ps=[])(abx:∀k∈ps,0<=k/\k<=65535)(hl:ps.length<=1000000)(ok:aR s)(h:aB T0 T o s p)
  (hK:∀T',T.length<=T'.length->aB T0 T' o { s with attr:=if ps=[] then 0 else ps.foldl bR s.attr} p->K (.tup []) T'):aj PG 108 [.ptr o 0 0,.sl sz (af .i64 ps) sk] T K:=by
 refine aj.aE FOk.nil Er (by simp[rX]) ?_
 unfold rX
 dsimp only
 simp -implicitDefEqProofs -dsimp only[ah,vcS,↓vcQ,simprocAttr]
 have ho:o<T.length:=by
  obtain ⟨k0,q,tq,od,m,pr,d1,d2,d3,pa,t⟩:=h
  exact eI t.box
 refine ⟨fun h0=>?_,fun h0=>?_⟩
 ·have e:ps=[]:=List.length_eq_zero_iff.1 (by omega)
  subst e
  rw[if_pos rfl] at hK
  refine bk.inv FOk.nil (S:=fun σ:Nat × ay=>⟨[(2,.ptr T.length 0 0),(4,.wrap (.clo 133) [.ptr T.length 0 0]),(12,.own (T.length+1) 0 1),(13,.int .i64 1),(14,.int .i64 σ.1)],σ.2⟩)
   (I:=fun σ=>σ.1<=1/\T.length<=σ.2.length/\σ.2[T.length]?=some (some (.box [.ptr o 0 0]))/\σ.2[T.length+1]?=some (some (.arr 1 (af .i64 [0])))/\aB T0 σ.2 o { s with attr:=if σ.1=0 then s.attr else 0} p) (μ:=fun σ=>1-σ.1) (0,T++ [some (.box [.ptr o 0 0]),some (.arr 1 (af .i64 [0]))]) ⟨by simp,by simp,aZ _ _ _,bl _ _ 1,h.keep (ax.app _ _ _)⟩ ?_ ?_
  ·simp -implicitDefEqProofs -dsimp only[an,vcS,↓vcQ,simprocAttr]
  ·intro ⟨i,A⟩ ⟨h1,h2,h3,h5,h4⟩
   dsimp only at h1 h2 h3 h4 h5 ⊢
   obtain ⟨k1,q1,tq1,od1,m1,pr1,f1,f2,f3,pa1,t1⟩:=id h4
   have hb1:=t1.box
   unfold aN at hb1
   dsimp only at hb1
   unfold jF
   have hg:(af .i64 [0])[0]?=some [.int .i64 0]:=rfl
   rcases Nat.lt_or_ge i 1 with hlt | hge
   ·obtain rfl:i=0:=by omega
    have e01:((0:Nat):Int)<1:=by omega
    have e02:(0:Int)<=((0:Nat):Int):=by omega
    have w1:IntKind.i64.wrap (((0:Nat):Int)+1)=((1:Nat):Int):=by decide
    simp -implicitDefEqProofs -dsimp only[ah,ai hb1,ai h3,ai h5,e01,e02,hg,w1,Int.toNat_natCast,Nat.zero_add,Nat.add_zero,an,vcS,↓vcQ,simprocAttr]
    refine ⟨(1,A.set o (some (.box (aN { s with attr:=0} q1 tq1 od1 m1 pr1 f1 f2 f3)))),⟨rfl,aH _⟩,⟨by simp,by simpa using h2,bn h3 _ (by omega),bn h5 _ (by omega),.mk (k1.put t1.no _) pa1 (t1.put rfl rfl rfl rfl rfl)⟩,by simp⟩
   ·obtain rfl:i=1:=by omega
    have e01:¬((1:Nat):Int)<1:=by omega
    simp -implicitDefEqProofs -dsimp only[ah,e01,an,vcS,↓vcQ,simprocAttr]
    exact ⟨h2,hK _ h2 h4⟩
 ·have e:¬ps=[]:=fun e=>h0 (by rw[e];rfl)
  rw[if_neg e] at hK
  refine Na (T:=T++ [some (.box [.ptr o 0 0])]) (K:=fun T'=>T.length<=T'.length/\K (.tup []) T') hs abx hl ok (aZ _ _ _) (by omega) (h.keep (ax.app _ _ _)) (fun T' l t'=>⟨by simp at l;omega,hK T' (by simp at l;omega) t'⟩) ?_
  exact fun _ _ h=>h
end
end Go.Proofs.YtjmnbpilnneonaaGreatDoor
