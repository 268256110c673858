/- Texts R4 in one. -/
import Derived.Test.YtjmnbpilnneonaaGreatDoorNB
import Derived.Test.YtjmnbpilnneonaaGreatDoorN9
set_option linter.unusedVariables false
set_option linter.unusedSimpArgs false
set_option maxRecDepth 10000
namespace Go.Proofs.YtjmnbpilnneonaaGreatDoor
open Go.RowKit
variable {L:List Ce}{rows aa y x:Nat}
noncomputable def qv:RC:=(.seq (SR [MV 18 8,MV 19 1,BT 20 .lss 18 19] [0,1,2,7,8,20] (.cond (.t 20) .skip (.ext 0))) (.seq (.blk 1 (SR [MV 23 2,MV 24 1,BT 25 .mul 23 24,MV 26 8,BT 27 .add 25 26,MV 9 27] [0,1,2,7,8,9] (SR [MV 28 0,MV 29 9,OP 30 (.aT 3 (.t 28) (.t 29)),FA 31 2 30,LD 32 31,OP 33 (.bin .eql (.t 32) (.c (.int .u8 1))),MV 34 33,MG 35 8 34 true,MG 36 1 34 true,OG 37 (.bin .sub (.t 36) (.c (.int .i64 1))) 34 true,OG 38 (.bin .eql (.t 35) (.t 37)) 34 true,MG 39 38 34 true,MG 40 0 39 false,MG 41 9 39 false,OG 42 (.bin .add (.t 41) (.c (.int .i64 1))) 39 false,OG 43 (.aT 3 (.t 40) (.t 42)) 39 false,FG 44 2 43 39 false,LG 45 44 39 false,OG 46 (.bin .neq (.t 45) (.c (.int .u8 2))) 39 false,OG 47 (.pick (.t 39) (.c (.bool true)) (.t 46)) 34 true,OP 48 (.pick (.t 34) (.t 47) (.c (.bool false))),MV 49 48,MG 50 0 49 false,MG 51 9 49 false,OG 52 (.aT 3 (.t 50) (.t 51)) 49 false,FG 53 2 52 49 false,LG 54 53 49 false,OG 55 (.bin .eql (.t 54) (.c (.int .u8 2))) 49 false,MG 56 55 49 false,MG 57 8 56 true,OG 58 (.bin .eql (.t 57) (.c (.int .i64 0))) 56 true,MG 59 58 56 true,MG 60 0 59 false,MG 61 9 59 false,OG 62 (.bin .sub (.t 61) (.c (.int .i64 1))) 59 false,OG 63 (.aT 3 (.t 60) (.t 62)) 59 false,FG 64 2 63 59 false,LG 65 64 59 false,OG 66 (.bin .neq (.t 65) (.c (.int .u8 1))) 59 false,OG 67 (.pick (.t 59) (.c (.bool true)) (.t 66)) 56 true,OG 68 (.pick (.t 56) (.t 67) (.c (.bool false))) 49 false,OP 69 (.pick (.t 49) (.c (.bool true)) (.t 68))] [0,1,2,7,8,9,69] (.cond (.t 69) (.reg [MV 70 7,MV 71 9,OP 72 (.call 40 []),OP 73 (.aT 3 (.t 70) (.t 71)),SA 3 73 72] 0 [0,1,2,7,8]) .skip)))) (.reg [MV 21 8,BI 22 .add 21 1,MV 8 22] 0 [0,1,2,7,8])))
noncomputable def nW:RFn:=⟨3,75,(SR [OP 6 (.mov (.c (.sl 0 [] .nil)))] [0,1,2] (SR [MV 10 0,OP 11 (.call 79 [.t 10]),MV 7 11] [0,1,2,7] (.seq (SR [MV 12 0,MV 13 1,MV 14 2,OP 15 (.call 88 [.t 12,.t 13,.t 14,.c (.int .i64 0)]),OP 16 (.un .not (.t 15))] [0,1,2,7,16] (.cond (.t 16) (SR [MV 17 7,MV 6 17] [6] .ret) .skip)) (.seq (SR [OP 8 (.mov (.c (.int .i64 0)))] [0,1,2,7,8] (.blk 0 (.loop qv))) (SR [MV 74 7,MV 6 74] [6] .ret))))),[.t 6]⟩
theorem xT:aK PG.P (aA PG.P 53 nW) 53=some nW:=by kernel_rfl
theorem Hs (g:bU L rows aa)(hy:y<rows)(hx:x<aa):(cO L aa y).getD (y*aa+x) aM=dK (cM L aa y) x:=by
 have hl:=bG g hy
 have s1:=bx y aa
 unfold cO
 rw[iI g hy (by rw[bQ,hl]),if_neg (by omega),if_pos (by omega),show y*aa+x-y*aa=x by omega,mB (by omega)]
theorem Dk {i:Nat}(g:bU L rows aa)(hy:y<rows)(h:¬(y*aa<=i/\i<(y+1)*aa)):(cO L aa y).getD i aM=L.getD i aM:=by
 have hl:=bG g hy
 unfold cO
 rw[iI g hy (by rw[bQ,hl])]
 split
 ·rfl
 ·rw[if_neg (by omega)]
theorem wO (g:bU L rows aa)(hy:y<rows)(hx:x<aa):hAt (cM L aa y) x=(L.getD (y*aa+x) aM).h:=by
 unfold hAt
 rw[cU g hy hx]
theorem Hp (g:bU L rows aa)(hy:y<rows)(hx:x<aa)(h:((L.getD (y*aa+x) aM).h=1/\(x+1=aa\/(x+1<aa/\(L.getD (y*aa+x+1) aM).h≠2)))\/((L.getD (y*aa+x) aM).h=2/\(x=0\/(0<x/\(L.getD (y*aa+x-1) aM).h≠1)))):(cO L aa y).getD (y*aa+x) aM=aM:=by
 have hl:=bG g hy
 rw[Hs g hy hx]
 refine zy ?_
 unfold yN
 rw[wO g hy hx,hl]
 rcases h with ⟨h1,h2 | ⟨h2,h3⟩⟩ | ⟨h1,h2 | ⟨h2,h3⟩⟩
 ·exact .inl ⟨h1,.inl h2⟩
 ·exact .inl ⟨h1,.inr (by rw[wO g hy h2];exact h3)⟩
 ·exact .inr ⟨h1,.inl h2⟩
 ·exact .inr ⟨h1,.inr (by rw[wO g hy (by omega),show y*aa+(x-1)=y*aa+x-1 by omega];exact h3)⟩
theorem Dj (g:bU L rows aa)(hy:y<rows)(hx:x<aa)(h1:(L.getD (y*aa+x) aM).h=1->x+1<aa/\(L.getD (y*aa+x+1) aM).h=2)(h2:(L.getD (y*aa+x) aM).h=2->0<x/\(L.getD (y*aa+x-1) aM).h=1):(cO L aa y).getD (y*aa+x) aM=L.getD (y*aa+x) aM:=by
 have hl:=bG g hy
 rw[Hs g hy hx,l8,cU g hy hx]
 unfold yN
 rw[wO g hy hx,hl]
 rintro (⟨a,b⟩ | ⟨a,b⟩)
 ·obtain ⟨c,d⟩:=h1 a
  rcases b with b | b
  ·omega
  ·rw[wO g hy c] at b;exact b d
 ·obtain ⟨c,d⟩:=h2 a
  rcases b with b | b
  ·omega
  ·rw[wO g hy (by omega),show y*aa+(x-1)=y*aa+x-1 by omega] at b;exact b d
end Go.Proofs.YtjmnbpilnneonaaGreatDoor
