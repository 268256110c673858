/- Texts P24, P25, P26, P27, P28, P29, P30, P31, P32, P33 in one. -/
import Derived.Test.YtjmnbpilnneonaaGreatDoorM5
import Derived.Test.YtjmnbpilnneonaaGreatDoorM6
set_option linter.unusedVariables false
set_option linter.unusedSimpArgs false
set_option maxRecDepth 10000
set_option linter.defProp false
namespace Go.Proofs.YtjmnbpilnneonaaGreatDoor
open Go.RowKit
noncomputable section
variable {b:Int}{p:Pa}{l:List Int}{f:Nat}
def qB (b:Int):Prop:=0<=b/\b<=255
def qC (b:Int):Prop:=32<=b/\b<=255
def acA:=ki gX qC
def Z2:=ki jd qB
def Z1:=ki jC qB
def acz:=ki (fun _ b=>jk b) qB
def PN:=ki iS qB
def T24:FL:=(94,acA)::(95,Z2)::(93,Z1)::(92,acz)::(91,PN)::T21
theorem VJ:FOk PG (tab T24):=
 FOk.DD (FOk.DD (FOk.DD (FOk.DD (FOk.DD um (vS fun p b h1 h2=>M1 h1 h2)) (vS fun p b h1 h2=>aaz h1 h2)) (vS fun p b h1 h2=>Wt h1 h2)) (vS fun p b h1 h2=>Wu h1 h2)) (vS fun p b h1 h2=>aaA h1 h2)
theorem Lu (args:List DV):tab T24 94 args=(ki gX qC args).map .h:=ak _
theorem II (args:List DV):tab T24 95 args=(ki jd qB args).map .h:=ak _
theorem IG (args:List DV):tab T24 93 args=(ki jC qB args).map .h:=ak _
theorem Lt (args:List DV):tab T24 92 args=(ki (fun _ b=>jk b) qB args).map .h:=ak _
theorem Co (args:List DV):tab T24 91 args=(ki iS qB args).map .h:=ak _
theorem IF (args:List DV):tab T24 90 args=(nC args).map .o:=ak _
theorem FB (args:List DV):tab T24 86 args=(jN args).map .o:=ak _
theorem wZ (x:Pa × List Ac):paR x=.tup [.agg [.int .i64 x.1.m,.int .u8 x.1.pr,.sl 1 (af .i64 x.1.P) .any,.sl 1 (af .u8 x.1.I) .any,.sl 1 (af .u8 x.1.U) .any],.sl 6 (cz x.2) .any]:=ak _
def uU:RFn:=⟨2,97,(SR [OP 2 (.box 5 (.t 0)),OP 4 (.alloc [.int .i64 0,.int .u8 0,.sl 0 [] .nil,.sl 0 [] .nil,.sl 0 [] .nil]),OP 5 (.mov (.c (.sl 0 [] .nil)))] [1,2,4] (.seq (.blk 0 (SR [MV 7 1,OP 8 (.bin .eql (.t 7) (.c (.int .u8 24))),MV 9 8,MG 10 1 9 false,OG 11 (.bin .eql (.t 10) (.c (.int .u8 26))) 9 false,OP 12 (.pick (.t 9) (.c (.bool true)) (.t 11)),MV 6 12] [1,2,4,6] (.cond (.t 6) (SR [OP 13 (.call 90 [.c (.int .i64 0)]),SA 5 4 13,OP 5 (.mov (.c (.sl 0 [] .nil)))] [4,5] .ret) (SR [MV 15 1,OP 16 (.bin .eql (.t 15) (.c (.int .u8 27))),MV 14 16] [1,2,4,14] (.cond (.t 14) (SR [OP 17 (.call 90 [.c (.int .i64 1)]),SA 5 4 17,OP 5 (.mov (.c (.sl 0 [] .nil)))] [4,5] .ret) (SR [FA 19 0 2,LD 20 19,BI 21 .eql 20 7,MV 22 21,MG 23 1 22 true,OG 24 (.bin .eql (.t 23) (.c (.int .u8 7))) 22 true,OP 25 (.pick (.t 22) (.t 24) (.c (.bool false))),MV 18 25] [1,2,4,18] (.cond (.t 18) (SR [OP 26 (.call 90 [.c (.int .i64 0)]),SA 5 4 26,OP 5 (.mov (.c (.sl 0 [] .nil)))] [4,5] .ret) (SR [FA 28 0 2,LD 29 28,BI 30 .eql 29 7,MV 31 30,MG 32 1 31 false,OG 33 (.bin .eql (.t 32) (.c (.int .u8 127))) 31 false,OP 34 (.pick (.t 31) (.c (.bool true)) (.t 33)),MV 27 34] [1,2,4,27] (.cond (.t 27) (SR [LT 35 5 2,SA 5 4 35,OP 5 (.mov (.c (.sl 0 [] .nil)))] [4,5] .ret) (SR [MV 37 1,OP 38 (.bin .lss (.t 37) (.c (.int .u8 32))),MV 36 38] [1,2,4,36] (.cond (.t 36) (SR [LT 39 5 2,MV 40 1,OP 41 (.build [.int .i64 0,.int .i32 0,.int .u8 0,.int .u8 0,.sl 0 [] .nil,.sl 0 [] .nil] [(0,(1,(.c (.int .i64 1)))),(2,(1,(.t 40)))]),OP 42 (.bK 6 [.int .i64 0,.int .i32 0,.int .u8 0,.int .u8 0,.sl 0 [] .nil,.sl 0 [] .nil] 1 [(0,(.t 41))]),SA 5 4 39,MV 5 42] [4,5] .ret) (SR [FA 44 0 2,LD 45 44,BI 46 .eql 45 0,MV 43 46] [1,2,4,43] (.cond (.t 43) (SR [LT 47 5 2,MV 48 1,OP 49 (.call 91 [.t 47,.t 48]),OP 50 (.ext (.t 49) 0),OP 51 (.ext (.t 49) 1),SA 5 4 50,MV 5 51] [4,5] .ret) (SR [MV 53 1,OP 54 (.bin .geq (.t 53) (.c (.int .u8 128))),MV 52 54] [1,2,4,52] (.cond (.t 52) (SR [OP 55 (.call 90 [.c (.int .i64 0)]),SA 5 4 55,OP 5 (.mov (.c (.sl 0 [] .nil)))] [4,5] .ret) .skip))))))))))))))) (.seq (SR [FA 56 0 2,LD 57 56] [1,2,4,57] (.blk 1 (SR [BI 59 .eql 57 1,MV 58 59] [1,2,4,57,58] (.cond (.t 58) (SR [LT 60 5 2,MV 61 1,OP 62 (.call 92 [.t 60,.t 61]),OP 63 (.ext (.t 62) 0),OP 64 (.ext (.t 62) 1),SA 5 4 63,MV 5 64] [4,5] .ret) (SR [BI 66 .eql 57 2,MV 65 66] [1,2,4,57,65] (.cond (.t 65) (SR [LT 67 5 2,MV 68 1,OP 69 (.call 93 [.t 67,.t 68]),OP 70 (.ext (.t 69) 0),OP 71 (.ext (.t 69) 1),SA 5 4 70,MV 5 71] [4,5] .ret) (SR [BI 73 .eql 57 3,MV 72 73] [1,2,4,57,72] (.cond (.t 72) (.seq (SR [MV 74 1,OP 75 (.call 86 [.t 74]),OP 76 (.un .not (.t 75))] [2,4,76] (.cond (.t 76) (.reg [OP 77 (.call 90 [.c (.int .i64 0)]),SA 5 2 77] 0 [2,4]) .skip)) (SR [LT 78 5 2,SA 5 4 78,OP 5 (.mov (.c (.sl 0 [] .nil)))] [4,5] .ret)) (SR [BI 80 .eql 57 4,MV 79 80] [1,2,4,57,79] (.cond (.t 79) (SR [LT 81 5 2,MV 82 1,OP 83 (.call 94 [.t 81,.t 82]),OP 84 (.ext (.t 83) 0),OP 85 (.ext (.t 83) 1),SA 5 4 84,MV 5 85] [4,5] .ret) (SR [BI 87 .eql 57 5,MV 86 87] [1,2,4,86] (.cond (.t 86) (SR [LT 88 5 2,MV 89 1,OP 90 (.call 95 [.t 88,.t 89]),OP 91 (.ext (.t 90) 0),OP 92 (.ext (.t 90) 1),SA 5 4 91,MV 5 92] [4,5] .ret) .skip)))))))))))) (.seq (SR [MV 93 1,OP 94 (.bin .geq (.t 93) (.c (.int .u8 64)))] [2,4,94] (.cond (.t 94) (.reg [OP 95 (.call 90 [.c (.int .i64 0)]),SA 5 2 95] 0 [2,4]) .skip)) (SR [LT 96 5 2,SA 5 4 96,OP 5 (.mov (.c (.sl 0 [] .nil)))] [4,5] .ret))))),[.c 4 true 5,.t 5]⟩
theorem GB:aK PG.P (aA PG.P 61 uU) 61=some uU:=by kernel_rfl
def eL (p:Pa)(b:Int):Pa × List Ac:=
 if b=24\/b=26 then (pa0 0,[])
 else if b=27 then (pa0 1,[])
 else if p.m=7/\b=7 then (pa0 0,[])
 else if p.m=7\/b=127 then (p,[])
 else if b<32 then (p,[⟨1,0,b,0,none,none⟩])
 else if p.m=0 then iS p b
 else if 128<=b then (pa0 0,[])
 else if p.m=1 then jk b
 else if p.m=2 then jC p b
 else if p.m=3 then (if cW b=true then p else pa0 0,[])
 else if p.m=4 then gX p b
 else if p.m=5 then jd p b
 else (if 64<=b then pa0 0 else p,[])
set_option maxHeartbeats 4000000 in
theorem Wq (hp:cS p)(hb:0<=b/\b<=255):eZ PG 61 (paH p b) (jH p) (fun n=>paF (eL p b)):=by
 obtain ⟨m,pr,P,I,U⟩:=p
 have hp0:=hp
 obtain ⟨h1,h2,h3,h4,h5,h6,h7⟩:=hp
 simp only at h1 h2 h3 h4 h5 h6 h7
 refine eZ.iR VJ GB (fun n=>by simp[uU,paH]) fun n=>?_
 unfold uU
 dsimp only[paH,jH]
 simp -implicitDefEqProofs -dsimp only[Lu,II,IG,Lt,Co,IF,FB,VP,sN,mQ,wZ,mH,eG,List.length_set,List.take_length,uh,gw,iQ,iT,vcR,↓vcQ,if_true,if_false,implies_true,simprocAttr,ne_eq,exists_eq_left,exists_eq_left',Function.comp_apply]
 clear h7
 simp only[pN]
 (repeat' (first | with_reducible exact Or.inl rfl | intro _ | (apply And.intro)))
 all_goals first
  | exact .inl rfl | exact .inr rfl | exact .inr ⟨rfl,trivial⟩
  | trivial
  | assumption
  | omega
  | exact rfl
  | exact hb
  | (show 32<=b/\b<=255;omega)
  | (dsimp only[eL];simp (disch:=omega) only[if_pos,if_neg];done)
  | (dsimp only[eL];(repeat (first | rw[if_pos (by omega)] | rw[if_neg (by omega)]));first | exact fK _ | rfl | (simp[paF,paR,paD,pa0,dH,cL,dI,dJ,dA,ff,fe,bX,bu];done))
  | (rename_i hh;exact (hp0.2.2.2.2.2.2 _ hh).1)
  | (rename_i hh;exact (hp0.2.2.2.2.2.2 _ hh).2)
  | (rename_i hh;exact (h1.2 _ hh).1)
  | (rename_i hh;exact (h1.2 _ hh).2)
  | (rename_i hh;exact (h2.2 _ hh).1)
  | (rename_i hh;exact (h2.2 _ hh).2)
  | (rename_i hh;exact (h3.2 _ hh).1)
  | (rename_i hh;exact (h3.2 _ hh).2)
  | (show List.length _<=_;dsimp only;omega)
  | (dsimp only[eL];(repeat (first | rw[if_pos (by omega)] | rw[if_neg (by omega)]));rw[if_neg (by simp[*])];simp[pa0,dA,bu];done)
def mw:List DV->Option aS
 | [.agg [.int .i64 m,.int .u8 pr,p,i,u]]=>some ⟨aD .i64 p/\aD .u8 i/\aD .u8 u/\((aG p).length<=1000000/\(aG i).length<=1000000/\(aG u).length<=1000000),fun n=>(.agg [.int .i64 m,.int .u8 pr,.own n 0 (aG p).length,.own (n+1) 0 (aG i).length,.sl 1 (af .u8 (aG u)) .any],[some (.arr 1 (af .i64 (aG p))),some (.arr 1 (af .u8 (aG i)))])⟩
 | _=>none
theorem yA (m pr:Int)(p i u:DV):mw [.agg [.int .i64 m,.int .u8 pr,p,i,u]]=some ⟨aD .i64 p/\aD .u8 i/\aD .u8 u/\((aG p).length<=1000000/\(aG i).length<=1000000/\(aG u).length<=1000000),fun n=>(.agg [.int .i64 m,.int .u8 pr,.own n 0 (aG p).length,.own (n+1) 0 (aG i).length,.sl 1 (af .u8 (aG u)) .any],[some (.arr 1 (af .i64 (aG p))),some (.arr 1 (af .u8 (aG i)))])⟩:=ak _
theorem HM (args:List DV)(s:aS)(hs:mw args=some s)(hp:s.pre):av PG 59 args fun n r os=>r=(s.res n).1/\os=(s.res n).2:=by
 unfold mw at hs
 split at hs
 ·obtain rfl:=sj hs
  obtain ⟨h1,h2,h3,h4⟩:=hp
  exact M3 h1 h2 h3 h4
 ·cases hs
theorem bP.wk {E:Prg}{a b:List DV}{T:ay}{R:DV->ay->Prop}(h:bP E f b T R)(hw:wkL wkT a b):bP E f a T R:=by
 obtain ⟨hl,hg⟩:=yQ hw
 exact fun G w vs h1 h2 h3 h4=>h G w vs h1 h2 (h3.trans hl) fun i d hd=>let ⟨c,hc,hx⟩:=hg i d hd;ru hx (h4 i c hc)
theorem eZ.wk {E:Prg}{a b:Nat->List DV}{obs:List Ob}{res:Nat->DV × ay}(h:eZ E f b obs res)(hw:∀n,wkL wkT (a n) (b n)):eZ E f a obs res:=fun n=>(h n).wk (hw n)
def wD (g:Pa->Int->Pa × List Ac)(q:Int->Prop):List DV->Option nA
 | [.agg [.int .i64 m,.int .u8 pr,.own o1 f1 n1,.own o2 f2 n2,u],.int .u8 b]=>some ⟨fun T=> ¬o1=o2/\f1=0/\f2=0/\pZ .i64 n1 T[o1]?/\pZ .u8 n2 T[o2]?/\aD .u8 u/\cS ⟨m,pr,cK T[o1]?,cK T[o2]?,aG u⟩/\q b,
   fun T=>(paR (g ⟨m,pr,cK T[o1]?,cK T[o2]?,aG u⟩ b),pY [o1,o2] T++ [none,none])⟩
 | _=>none
theorem PT (g:Pa->Int->Pa × List Ac)(q:Int->Prop)(m pr b:Int)(o1 f1 n1 o2 f2 n2:Nat)(u:DV):wD g q [.agg [.int .i64 m,.int .u8 pr,.own o1 f1 n1,.own o2 f2 n2,u],.int .u8 b]=
  some ⟨fun T=> ¬o1=o2/\f1=0/\f2=0/\pZ .i64 n1 T[o1]?/\pZ .u8 n2 T[o2]?/\aD .u8 u/\cS ⟨m,pr,cK T[o1]?,cK T[o2]?,aG u⟩/\q b,
   fun T=>(paR (g ⟨m,pr,cK T[o1]?,cK T[o2]?,aG u⟩ b),pY [o1,o2] T++ [none,none])⟩:=ak _
theorem Tz {g:Pa->Int->Pa × List Ac}{q:Int->Prop}(h:∀p b,cS p->q b->eZ PG f (paH p b) (jH p) (fun n=>paF (g p b)))(args:List DV)(s:nA)(hs:wD g q args=some s):HOk PG f args s:=by
 unfold wD at hs
 split at hs
 ·rename_i m pr o1 f1 n1 o2 f2 n2 u b
  obtain rfl:=sj hs
  intro T K ⟨p1,p2,p3,p4,p5,p6,p7,p8⟩ hK
  subst p2 p3
  obtain ⟨e1,l1,k1⟩:=sH p4
  obtain ⟨e2,l2,k2⟩:=sH p5
  obtain ⟨sz,k,e3,k3,k4⟩:=aC p6
  have hc:eZ PG f (fun n=> [.agg [.int .i64 m,.int .u8 pr,.own n 0 (cK T[o1]?).length,.own (n+1) 0 (cK T[o2]?).length,.sl sz (af .u8 (aG u)) k],.int .u8 b]) (jH ⟨m,pr,cK T[o1]?,cK T[o2]?,aG u⟩) (fun n=>paF (g ⟨m,pr,cK T[o1]?,cK T[o2]?,aG u⟩ b)):=by
   refine (h _ b p7 p8).wk fun n=>?_
   simp only[paH,wkL,wkT,wkA,wk0]
   refine ⟨⟨trivial,trivial,trivial,trivial,⟨trivial,.inl trivial, ?_⟩,trivial⟩,trivial,trivial⟩
   rcases k3 with rfl | k3
   ·exact .inl rfl
   ·exact .inr (by simp[k3,af])
  refine aj.hand [o1,o2] _ (by simp[p1]) rfl (fun i o ob ho hob=>?_) (fun d hd o ho=>?_) ?_ hc (by simpa [paF] using hK)
  ·rcases i with _ | _ | i
   ·simp[jH] at ho hob;subst ho hob;exact e1
   ·simp[jH] at ho hob;subst ho hob;exact e2
   ·simp at ho
  ·simp only[List.mem_cons,List.not_mem_nil,or_false] at hd
   rcases hd with rfl | rfl
   ·rw[e3] at ho
    simp[eu,pL,jR] at ho
    simp;exact ho
   ·simp[eu,pL,jR] at ho
  ·simp only[List.map_cons,List.map_nil,lK,qO,oo,pos,l1,l2]
   rw[e3]
   simp[lK,qO,oo,pos,p1,aL]
 ·cases hs
theorem Mj {α:Sort _}(n:Nat)(a b:α):(if 1+n<=n+1 then a else b)=a:=if_pos (by omega)
theorem CP {α:Type}(l:List α)(a:α):List.take (1+l.length) (a::l)=a::l:=List.take_of_length_le (by simp;omega)
def Z0:=wD eL qB
def T25:FL:=(61,Z0)::(59,mw)::T24
theorem VI:FOk PG (tab T25):=
 FOk.DD (FOk.cons VJ HM) (Tz fun p b h1 h2=>Wq h1 h2)
theorem IE (args:List DV):tab T25 61 args=(wD eL qB args).map .h:=ak _
theorem Cn (args:List DV):tab T25 59 args=(mw args).map .o:=ak _
theorem Fz (args:List DV):tab T25 60 args=(nK args).map .o:=ak _
def zz (p:Pa)(b:Int):Bool:=decide (p.m=0) && decide (0<p.U.length) && (decide (1<(cD p.U b).2.length) || (decide ((cD p.U b).2.length=1) && decide (0<(cD p.U b).1.length)))
def dy (p:Pa)(b:Int):Pa × List Ac:=
 if zz p b=true then ((eL { p with U:=[]} b).1,⟨0,65533,0,0,none,none⟩::(eL { p with U:=[]} b).2)
 else eL p b
theorem Mf {c:Prop} [Decidable c] {a b n:Nat}(h1:a<=n)(h2:b<=n):(if c then a else b)<=n:=by split <;> assumption
theorem rC (p:Pa)(b:Int):(eL p b).2.length<=2:=by
 have h1:=nM p.U b
 unfold eL iS jk jC gX jd jU
 simp only[apply_ite Prod.snd,apply_ite List.length,List.length_map,List.length_nil,List.length_cons]
 repeat' (first | apply Mf | exact h1 | omega)
def uV:RFn:=⟨2,54,(SR [OP 2 (.box 5 (.t 0)),OP 4 (.alloc [.int .i64 0,.int .u8 0,.sl 0 [] .nil,.sl 0 [] .nil,.sl 0 [] .nil]),OP 5 (.mov (.c (.sl 0 [] .nil)))] [1,2,4] (SR [LT 10 5 2,OP 11 (.call 59 [.t 10]),SA 5 2 11] [1,2,4] (SR [OP 6 (.mov (.c (.sl 0 [] .nil)))] [1,2,4,6] (.seq (SR [FA 12 0 2,LD 13 12,BI 14 .eql 13 0,MV 15 14,FG 16 4 2 15 true,LG 17 16 15 true,OG 18 (.len (.t 17)) 15 true,OG 19 (.bin .gtr (.t 18) (.c (.int .i64 0))) 15 true,OP 20 (.pick (.t 15) (.t 19) (.c (.bool false)))] [1,2,4,6,20] (.cond (.t 20) (SR [FA 22 4 2,LD 23 22,MV 24 1,OP 25 (.call 60 [.t 23,.t 24]),MV 21 25,OP 26 (.ext (.t 21) 0),OP 27 (.ext (.t 21) 1),MV 7 26,MV 8 27] [1,2,4,6,7,8] (SR [MV 28 8,OP 29 (.len (.t 28)),BI 30 .gtr 29 1,MV 31 30,MG 32 8 31 false,OG 33 (.len (.t 32)) 31 false,OG 34 (.bin .eql (.t 33) (.c (.int .i64 1))) 31 false,MG 35 34 31 false,MG 36 7 35 true,OG 37 (.len (.t 36)) 35 true,OG 38 (.bin .gtr (.t 37) (.c (.int .i64 0))) 35 true,OG 39 (.pick (.t 35) (.t 38) (.c (.bool false))) 31 false,OP 40 (.pick (.t 31) (.c (.bool true)) (.t 39))] [1,2,4,6,40] (.cond (.t 40) (.reg [OP 41 (.build [.int .i64 0,.int .i32 0,.int .u8 0,.int .u8 0,.sl 0 [] .nil,.sl 0 [] .nil] [(0,(1,(.c (.int .i64 0)))),(1,(1,(.c (.int .i32 65533))))]),OP 42 (.bK 6 [.int .i64 0,.int .i32 0,.int .u8 0,.int .u8 0,.sl 0 [] .nil,.sl 0 [] .nil] 1 [(0,(.t 41))]),MV 6 42,FA 43 4 2,NP (.store 1 (.t 43) (.c (.sl 0 [] .nil)))] 0 [1,2,4,6]) .skip))) .skip)) (SR [LT 45 5 2,MV 46 1,OP 47 (.call 61 [.t 45,.t 46]),MV 44 47,OP 48 (.ext (.t 44) 0),OP 49 (.ext (.t 44) 1),SA 5 2 48,MV 9 49] [2,4,6,9] (.seq (.cJ (.take (MV 51 6) [] (.take (LT 50 5 2) [.t 51] (.take (MV 52 9) [] (.op (OP 53 (.append 6 64 (.t 51) (.t 52))) (.op (SA 5 4 50) (.take (MV 5 53) [] .done)))))) 0 [4,5]) .ret)))))),[.c 4 true 5,.t 5]⟩
theorem GC:aK PG.P (aA PG.P 33 uV) 33=some uV:=by kernel_rfl
theorem Wr {m pr:Int}{p i u:DV}(hp:aD .i64 p)(hi:aD .u8 i)(hu:aD .u8 u)(ho:cS ⟨m,pr,aG p,aG i,aG u⟩)(hb:0<=b/\b<=255) :
  av PG 33 [.agg [.int .i64 m,.int .u8 pr,p,i,u],.int .u8 b] fun n r os=>r=(paF (dy ⟨m,pr,aG p,aG i,aG u⟩ b)).1/\os=[]:=by
 obtain ⟨s1,k1,e1,h1,g1⟩:=aC hp
 obtain ⟨s2,k2,e2,h2,g2⟩:=aC hi
 obtain ⟨s3,k3,e3,h3,g3⟩:=aC hu
 rw[e1,e2,e3]
 simp only[aL]
 generalize aG p=P at *
 generalize aG i=I at *
 generalize aG u=U at *
 have ⟨j1,j2,j3,j4,j5,j6,j7⟩:=ho
 simp only at j1 j2 j3 j4 j5 j6 j7
 refine av.iR (res:=fun n=>paF (dy ⟨m,pr,P,I,U⟩ b)) VI GC (by simp[uV]) fun n=>?_
 unfold uV
 dsimp only
 have e1:aD .i64 (.sl s1 (af .i64 P) k1):=aQ h1 g1
 have e2:aD .u8 (.sl s2 (af .u8 I) k2):=aQ h2 g2
 have e3:aD .u8 (.sl s3 (af .u8 U) k3):=aQ h3 g3
 clear j7
 simp -implicitDefEqProofs -dsimp only[IE,Cn,Fz,PT,Mj,CP,yA,oD,e1,e2,e3,wZ,mH,aL,eG,List.length_set,List.take_length,uh,gw,iQ,iT,vcR,↓vcQ,if_true,if_false,implies_true,simprocAttr,ne_eq,exists_eq_left,exists_eq_left',Function.comp_apply]
 have q1:=rC ⟨m,pr,P,I,U⟩ b
 have q2:=rC ⟨m,pr,P,I,[]⟩ b
 have o1:cS ⟨m,pr,P,I,U⟩:=ho
 have o2:cS ⟨m,pr,P,I,[]⟩:=⟨j1,j2,fQ _,j4,j5,by simp,ho.2.2.2.2.2.2⟩
 have c1:zz ⟨m,pr,P,I,U⟩ b=true->dy ⟨m,pr,P,I,U⟩ b=((eL ⟨m,pr,P,I,[]⟩ b).1,⟨0,65533,0,0,none,none⟩::(eL ⟨m,pr,P,I,[]⟩ b).2):=fun h=>by simp[dy,h]
 have c2:zz ⟨m,pr,P,I,U⟩ b=false->dy ⟨m,pr,P,I,U⟩ b=eL ⟨m,pr,P,I,U⟩ b:=fun h=>by simp[dy,h]
 have k1:∀x:Pa × List Ac,x=dy ⟨m,pr,P,I,U⟩ b->wkT (paR x) (paF (dy ⟨m,pr,P,I,U⟩ b)).1/\[]=(paF (dy ⟨m,pr,P,I,U⟩ b)).2:=fun x h=>by
  subst h;exact ⟨fK _,rfl⟩
 have hd:zz ⟨m,pr,P,I,U⟩ b=(decide (m=0) && decide (0<U.length) && (decide (1<(cD U b).2.length) || (decide ((cD U b).2.length=1) && decide (0<(cD U b).1.length)))):=rfl
 generalize hA:eL ⟨m,pr,P,I,U⟩ b=A at *
 generalize hB:eL ⟨m,pr,P,I,[]⟩ b=B at *
 generalize cD U b=us at *
 have fA:∀x:Prop,x->((inK .i64 P/\inK .u8 I/\inK .u8 U/\cS ⟨m,pr,P,I,U⟩/\qB b)/\(A.2.length*64<=140737488355328/\A.2.length<=4611686018427387904)/\x):=fun x hx=>⟨⟨j1,j2,j3,o1,hb⟩,⟨by omega,by omega⟩,hx⟩
 have fB:∀x:Prop,x->((inK .i64 P/\inK .u8 I/\cS ⟨m,pr,P,I,[]⟩/\qB b)/\((1+B.2.length)*64<=140737488355328/\1+B.2.length<=4611686018427387904)/\x):=fun x hx=>⟨⟨j1,j2,o2,hb⟩,⟨by omega,by omega⟩,hx⟩
 have hA1:zz ⟨m,pr,P,I,U⟩ b=false->_:=fun h=>fA _ (k1 A (c2 h).symm)
 have hB1:zz ⟨m,pr,P,I,U⟩ b=true->_:=fun h=>fB _ (k1 _ (c1 h).symm)
 refine ⟨⟨by omega,by omega,by omega⟩,fun hm=>⟨fun hu0=>⟨⟨j3,by omega,hb⟩,fun a1=>hB1 ?_,fun a1=>⟨fun a2=>⟨fun a3=>hB1 ?_,fun a3=>hA1 ?_⟩,fun a2=>hA1 ?_⟩⟩,fun hu0=>hA1 ?_⟩,fun hm=>hA1 ?_⟩
 all_goals (rw[hd];simp only[Bool.and_eq_true,Bool.or_eq_true,decide_eq_true_eq,Bool.and_eq_false_iff,Bool.or_eq_false_iff,decide_eq_false_iff_not];omega)
theorem mE (m:Int):cS (pa0 m):=⟨fQ _,fQ _,fQ _,by simp[pa0],by simp[pa0],by simp[pa0],by simp[pa0]⟩
theorem pK {c:Prop} [Decidable c] {P:Pa × List Ac->Prop}{a b:Pa × List Ac}(h1:c->P a)(h2:¬c->P b):P (if c then a else b):=by split;exact h1 ‹_›;exact h2 ‹_›
theorem Mi {k:IntKind}{n:Int}(h:inK k l)(hn:k.min<=n/\n<=k.max)(hl:l.length<=1000):inK k (l++ [n]):=by
 refine ⟨by simp;omega,fun x hx=>?_⟩
 simp only[List.mem_append,List.mem_singleton] at hx
 rcases hx with hx | rfl
 ·exact h.2 _ hx
 ·exact hn
theorem WD:IntKind.u8.min=0/\IntKind.u8.max=255:=by decide
theorem aaf:IntKind.i64.min= -9223372036854775808/\IntKind.i64.max=9223372036854775807:=by decide
theorem ac2 (hl:l.length<=1000)(h:∀n∈l,0<=n/\n<=65535):inK .i64 l:=⟨by omega,fun n hn=>by have:=h n hn;have:=aaf;omega⟩
theorem Qz (hp:cS p)(hb:32<=b/\b<=255):cS (gX p b).1:=by
 obtain ⟨h1,h2,h3,h4,h5,h6,h7⟩:=hp
 have:=WD
 refine pK (P:=fun x=>cS x.1) (fun hv=>⟨h1,⟨by simp,fun x hx=>by simp at hx;subst hx;omega⟩,h3,h4,by simp,h6,h7⟩) fun hv=>?_
 have hv2:48<=b:=by simp[cW] at hv;omega
 refine pK (P:=fun x=>cS x.1) (fun _=>mE 0) fun h64=>?_
 refine pK (P:=fun x=>cS x.1) (fun _=>mE 6) fun h58=>?_
 refine pK (P:=fun x=>cS x.1) (fun _=>⟨h1,h2,h3,h4,h5,h6,h7⟩) fun h59=>?_
 have hq:∀{Q:List Int},Q.length<=1000->(∀n∈Q,0<=n/\n<=65535)->cS ⟨p.m,p.pr,Q,p.I,p.U⟩:=fun a c=>⟨ac2 a c,h2,h3,a,h5,h6,c⟩
 refine pK (P:=fun x=>cS x.1) (fun hl0=>pK (P:=fun x=>cS x.1) (fun _=>hq (by simp) (by simp)) fun _=>hq (by simp) (by simp;omega)) fun hl0=>?_
 refine pK (P:=fun x=>cS x.1) (fun hl0=>pK (P:=fun x=>cS x.1) (fun _=>mE 6) fun _=>hq (by simp;omega) fun n hn=>?_) fun _=>hq (by simp[mX];omega) fun n hn=>?_
 ·simp at hn
  rcases hn with hn | rfl
  ·exact h7 n hn
  ·omega
 ·rcases List.mem_or_eq_of_mem_set hn with h | rfl
  ·exact h7 n h
  ·have h0:0<=p.P.getD (p.P.length-1) 0:=by
    rw[List.getD_eq_getElem?_getD]
    rcases h:p.P[p.P.length-1]? with _ | v
    ·simp
    ·exact (h7 v (List.mem_of_getElem? h)).1
   omega
theorem CH (hp:cS p)(hb:0<=b/\b<=255):cS (eL p b).1:=by
 have h0:=mE
 obtain ⟨h1,h2,h3,h4,h5,h6,h7⟩:=id hp
 have hu:=WD
 have e1:(cD p.U b).1.length<=1000:=by have:=QC p.U b;omega
 have e2:=QD h3 hb (by omega)
 have hg:∀{c:Prop} [Decidable c] {x y:Pa × List Ac},(c->cS x.1)->(¬c->cS y.1)->cS (if c then x else y).1:=fun a c=>pK (P:=fun x=>cS x.1) a c
 refine hg (fun _=>h0 _) fun _=>hg (fun _=>h0 _) fun _=>hg (fun _=>h0 _) fun _=>hg (fun _=>hp) fun _=>hg (fun _=>hp) fun hb2=>hg (fun _=>⟨h1,h2,e2,h4,h5,e1,h7⟩) fun _=>hg (fun _=>h0 _) fun _=>hg (fun _=>?_) fun _=>hg (fun _=>?_) fun _=>hg (fun _=>?_) fun _=>hg (fun _=>Qz hp (by omega)) fun _=>hg (fun _=>?_) fun _=>?_
 ·exact hg (fun _=>⟨fQ _,⟨by simp,fun x hx=>by simp at hx;subst hx;omega⟩,fQ _,by simp,by simp,by simp,by simp⟩) fun _=>hg (fun _=>h0 _) fun _=>hg (fun _=>h0 _) fun _=>h0 _
 ·exact hg (fun _=>h0 _) fun _=>hg (fun _=>h0 _) fun hl=>⟨h1,Mi h2 (by omega) h5,h3,h4,by simp;omega,h6,h7⟩
 ·show cS (if cW b=true then p else pa0 0)
  split
  ·exact hp
  ·exact h0 _
 ·exact hg (fun _=>h0 _) fun _=>hg (fun _=>h0 _) fun hl=>⟨h1,Mi h2 (by omega) h5,h3,h4,by simp;omega,h6,h7⟩
 ·show cS (if 64<=b then pa0 0 else p)
  split
  ·exact h0 _
  ·exact hp
theorem rD (hp:cS p)(hb:0<=b/\b<=255):cS (dy p b).1:=by
 unfold dy
 split
 ·obtain ⟨h1,h2,h3,h4,h5,h6,h7⟩:=hp
  exact CH ⟨h1,h2,fQ _,h4,h5,by simp,h7⟩ hb
 ·exact CH hp hb
theorem CJ (p:Pa)(b:Int):(dy p b).2.length<=3:=by
 unfold dy
 have h1:=rC p b
 have h2:=rC { p with U:=[]} b
 split
 ·simp;omega
 ·omega
def sM:List DV->Option aS
 | [.agg [.int .i64 m,.int .u8 pr,p,i,u],.int .u8 b]=>some ⟨aD .i64 p/\aD .u8 i/\aD .u8 u/\cS ⟨m,pr,aG p,aG i,aG u⟩/\(0<=b/\b<=255),fun n=>(paR (dy ⟨m,pr,aG p,aG i,aG u⟩ b),[])⟩
 | _=>none
theorem DQ (m pr b:Int)(p i u:DV):sM [.agg [.int .i64 m,.int .u8 pr,p,i,u],.int .u8 b]=some ⟨aD .i64 p/\aD .u8 i/\aD .u8 u/\cS ⟨m,pr,aG p,aG i,aG u⟩/\(0<=b/\b<=255),fun n=>(paR (dy ⟨m,pr,aG p,aG i,aG u⟩ b),[])⟩:=ak _
theorem ON (args:List DV)(s:aS)(hs:sM args=some s)(hp:s.pre):av PG 33 args fun n r os=>r=(s.res n).1/\os=(s.res n).2:=by
 unfold sM at hs
 split at hs
 ·obtain rfl:=sj hs
  obtain ⟨h1,h2,h3,h4,h5⟩:=hp
  exact Wr h1 h2 h3 h4 h5
 ·cases hs
def T27:FL:=(33,sM)::T25
theorem mN:FOk PG (tab T27):=FOk.cons VI ON
theorem ID (args:List DV):tab T27 33 args=(sM args).map .o:=ak _
theorem av.wk {E:Prg}{a b:List DV}{R:Nat->DV->ay->Prop}(h:av E f b R)(hw:wkL wkT a b):av E f a R:=fun n=>(h n).wk hw
def CB (g:Pa->Int->Pa × List Ac)(q:Pa->Int->Prop):List DV->Option aS
 | [.agg [.int .i64 m,.int .u8 pr,p,i,u],.int .u8 b]=>some ⟨aD .i64 p/\aD .u8 i/\aD .u8 u/\q ⟨m,pr,aG p,aG i,aG u⟩ b,fun n=>(paR (g ⟨m,pr,aG p,aG i,aG u⟩ b),[])⟩
 | _=>none
theorem LH (g:Pa->Int->Pa × List Ac)(q:Pa->Int->Prop)(m pr b:Int)(p i u:DV):CB g q [.agg [.int .i64 m,.int .u8 pr,p,i,u],.int .u8 b]=some ⟨aD .i64 p/\aD .u8 i/\aD .u8 u/\q ⟨m,pr,aG p,aG i,aG u⟩ b,fun n=>(paR (g ⟨m,pr,aG p,aG i,aG u⟩ b),[])⟩:=ak _
theorem de {k:IntKind}{d:DV}(h:aD k d):wkA d (.sl 1 (af k (aG d)) .any):=by
 obtain ⟨s,z,e,h1,h2⟩:=aC h
 generalize aG d=l at *
 subst e
 refine ⟨rfl,.inl rfl, ?_⟩
 rcases h1 with rfl | rfl
 ·exact .inl rfl
 ·exact .inr rfl
theorem gR {k0:IntKind}{d d2:DV}(h:wkA d d2)(k:aD k0 d):wk0 d d2:=by
 obtain ⟨s,z,e,h1,h2⟩:=aC k
 rw[e] at h ⊢
 exact h
theorem Sd {g:Pa->Int->Pa × List Ac}{q:Pa->Int->Prop}(h:∀p b,q p b->av PG f [paD p,.int .u8 b] fun n r os=>r=(paF (g p b)).1/\os=[])(args:List DV)(s:aS)(hs:CB g q args=some s)(hp:s.pre) :
  av PG f args fun n r os=>r=(s.res n).1/\os=(s.res n).2:=by
 unfold CB at hs
 split at hs
 ·rename_i m pr p i u b
  obtain rfl:=sj hs
  obtain ⟨h1,h2,h3,h4⟩:=hp
  refine (h _ b h4).wk ⟨⟨rfl,rfl, ?_, ?_, ?_,trivial⟩,rfl,trivial⟩
  ·exact gR (de h1) h1
  ·exact gR (de h2) h2
  ·exact gR (de h3) h3
 ·cases hs
def sg:RFn:=⟨1,9,(SR [MB 2 false] [0] (SR [MV 3 0,OP 4 (.bin .geq (.t 3) (.c (.int .u8 32))),MV 5 4,MG 6 0 5 true,OG 7 (.bin .leq (.t 6) (.c (.int .u8 47))) 5 true,OP 8 (.pick (.t 5) (.t 7) (.c (.bool false))),MV 2 8] [2] .ret)),[.t 2]⟩
theorem Ez:aK PG.P (aA PG.P 55 sg) 55=some sg:=by kernel_rfl
def pq:RFn:=⟨2,24,(SR [MB 4 false] [0,1] (SR [MV 5 0,OP 6 (.len (.t 5)),BI 7 .eql 6 2,MV 8 7,MG 9 0 8 true,OG 10 (.aT 1 (.t 9) (.c (.int .i64 0))) 8 true,LG 11 10 8 true,OG 12 (.bin .eql (.t 11) (.c (.int .u8 239))) 8 true,OP 13 (.pick (.t 8) (.t 12) (.c (.bool false))),MV 14 13,MG 15 0 14 true,OG 16 (.aT 1 (.t 15) (.c (.int .i64 1))) 14 true,LG 17 16 14 true,OG 18 (.bin .eql (.t 17) (.c (.int .u8 191))) 14 true,OP 19 (.pick (.t 14) (.t 18) (.c (.bool false))),MV 20 19,MG 21 1 20 true,OG 22 (.bin .eql (.t 21) (.c (.int .u8 189))) 20 true,OP 23 (.pick (.t 20) (.t 22) (.c (.bool false))),MV 4 23] [4] .ret)),[.t 4]⟩
theorem BP:aK PG.P (aA PG.P 68 pq) 68=some pq:=by kernel_rfl
def vi:RFn:=⟨2,10,(SR [OP 4 (.mov (.c (.sl 0 [] .nil)))] [0,1] (SR [MV 5 0,OP 6 (.append 1 1 (.c (.sl 0 [] .nil)) (.t 5)),MV 7 1,OP 8 (.bK 1 [.int .u8 0] 1 [(0,(.t 7))]),OP 9 (.append 1 1 (.t 6) (.t 8)),MV 4 9] [4] .ret)),[.t 4]⟩
theorem GL:aK PG.P (aA PG.P 111 vi) 111=some vi:=by kernel_rfl
def ta:RC:=(.seq (SR [MV 5 4,MV 6 0,OP 7 (.len (.t 6)),BT 8 .lss 5 7] [0,3,4,8] (.cond (.t 8) .skip (.ext 0))) (.seq (.blk 1 (.reg [MV 11 3,MV 12 0,MV 13 4,OP 14 (.aT 1 (.t 12) (.t 13)),LD 15 14,OP 16 (.build [.int .i64 0,.int .i32 0,.int .u8 0,.int .u8 0,.sl 0 [] .nil,.sl 0 [] .nil] [(0,(1,(.c (.int .i64 0)))),(1,(1,(.t 15)))]),OP 17 (.bK 6 [.int .i64 0,.int .i32 0,.int .u8 0,.int .u8 0,.sl 0 [] .nil,.sl 0 [] .nil] 1 [(0,(.t 16))]),OP 18 (.append 6 64 (.t 11) (.t 17)),MV 3 18] 0 [0,3,4])) (.reg [MV 9 4,BI 10 .add 9 1,MV 4 10] 0 [0,3,4])))
def pn:RFn:=⟨1,20,(SR [OP 2 (.mov (.c (.sl 0 [] .nil)))] [0] (SR [OP 3 (.mov (.c (.sl 0 [] .nil)))] [0,3] (.seq (SR [OP 4 (.mov (.c (.int .i64 0)))] [0,3,4] (.blk 0 (.loop ta))) (SR [MV 19 3,MV 2 19] [2] .ret)))),[.t 2]⟩
theorem BO:aK PG.P (aA PG.P 69 pn) 69=some pn:=by kernel_rfl
theorem RK (mW:0<=b/\b<=255) :
  av PG 55 [.int .u8 b] fun n RR OO=>RR=((.bool (cW b),[]):DV × ay).1/\OO=((.bool (cW b),[]):DV × ay).2:=by
 refine av.di (res:=fun n=>(.bool (cW b),[])) mN Ez (by simp[sg]) fun n=>?_
 unfold sg
 dsimp only
 simp -implicitDefEqProofs -dsimp only[gw,vcR,↓vcQ,if_true,if_false,implies_true,simprocAttr,ne_eq,exists_eq_left,exists_eq_left',Function.comp_apply]
 grind [cW]
def mS:List DV->Option aS
 | [.int .u8 b]=>some ⟨(0<=b/\b<=255)/\True,fun n=>(.bool (cW b),[])⟩
 | _=>none
theorem mR (b:Int):mS [.int .u8 b]=some ⟨(0<=b/\b<=255)/\True,fun n=>(.bool (cW b),[])⟩:=ak _
theorem NJ (args:List DV)(s:aS)(hs:mS args=some s)(hp:s.pre):av PG 55 args fun n r os=>r=(s.res n).1/\os=(s.res n).2:=by
 unfold mS at hs
 split at hs
 ·rename_i b
  obtain rfl:=sj hs
  obtain ⟨mW,hp⟩:=hp
  have this:=RK mW
  exact this
 ·cases hs
def iq (p:List Int)(b:Int):Bool:=decide (p=[239,191]) && decide (b=189)
theorem NK {Ge:Nat}{k_p:SK}{p:List Int}(YQ:Ge=1\/p=[])(abr:inK .u8 p)(mW:0<=b/\b<=255) :
  av PG 68 [.sl Ge (af .u8 p) k_p,.int .u8 b] fun n RR OO=>RR=((.bool (iq p b),[]):DV × ay).1/\OO=((.bool (iq p b),[]):DV × ay).2:=by
 refine av.di (res:=fun n=>(.bool (iq p b),[])) mN BP (by simp[pq]) fun n=>?_
 unfold pq
 dsimp only
 simp -implicitDefEqProofs -dsimp only[gw,vcR,↓vcQ,if_true,if_false,implies_true,simprocAttr,ne_eq,exists_eq_left,exists_eq_left',Function.comp_apply]
 have h1:∀x y,p=[x,y]->Ge=1:=fun x y h=>by rcases YQ with h2 | h2;exact h2;rw[h] at h2;cases h2
 unfold iq
 rcases p with _ | ⟨x,_ | ⟨y,_ | ⟨z,l⟩⟩⟩
 ·simp
 ·simp
 ·have:=h1 x y rfl
  simp
  grind
 ·simp
  omega
def mz:List DV->Option aS
 | [a_p,.int .u8 b]=>some ⟨aD .u8 a_p/\(0<=b/\b<=255)/\True,fun n=>(.bool (iq (aG a_p) b),[])⟩
 | _=>none
theorem yB (a_p:DV)(b:Int):mz [a_p,.int .u8 b]=some ⟨aD .u8 a_p/\(0<=b/\b<=255)/\True,fun n=>(.bool (iq (aG a_p) b),[])⟩:=ak _
theorem JS (args:List DV)(s:aS)(hs:mz args=some s)(hp:s.pre):av PG 68 args fun n r os=>r=(s.res n).1/\os=(s.res n).2:=by
 unfold mz at hs
 split at hs
 ·rename_i a_p b
  obtain rfl:=sj hs
  obtain ⟨abw,mW,hp⟩:=hp
  obtain ⟨ad6,abj,abG,abF,abE⟩:=aC abw
  have this:=NK (k_p:=abj) abF abE mW
  rw[<-abG] at this
  exact this
 ·cases hs
theorem Xv {jQ:Nat}{k_l:SK}(Av:jQ=1\/l=[])(E0:inK .u8 l)(mW:0<=b/\b<=255)(hp:l.length<=1000) :
  av PG 111 [.sl jQ (af .u8 l) k_l,.int .u8 b] fun n RR OO=>RR=((.own n 0 (l.length+1),[some (.arr 1 (af .u8 (l++ [b])))]):DV × ay).1/\OO=((.own n 0 (l.length+1),[some (.arr 1 (af .u8 (l++ [b])))]):DV × ay).2:=by
 refine av.di (res:=fun n=>(.own n 0 (l.length+1),[some (.arr 1 (af .u8 (l++ [b])))])) mN GL (by simp[vi]) fun n=>?_
 unfold vi
 dsimp only
 simp -implicitDefEqProofs -dsimp only[gw,vcR,↓vcQ,if_true,if_false,implies_true,simprocAttr,ne_eq,exists_eq_left,exists_eq_left',Function.comp_apply]
 exact ⟨⟨Av.imp id fun h=>by simp[h,af],by omega,by omega⟩,by omega,by omega⟩
def sO:List DV->Option aS
 | [a_l,.int .u8 b]=>some ⟨aD .u8 a_l/\(0<=b/\b<=255)/\(aG a_l).length<=1000,fun n=>(.own n 0 ((aG a_l).length+1),[some (.arr 1 (af .u8 ((aG a_l)++ [b])))])⟩
 | _=>none
theorem DR (a_l:DV)(b:Int):sO [a_l,.int .u8 b]=some ⟨aD .u8 a_l/\(0<=b/\b<=255)/\(aG a_l).length<=1000,fun n=>(.own n 0 ((aG a_l).length+1),[some (.arr 1 (af .u8 ((aG a_l)++ [b])))])⟩:=ak _
theorem Rp (args:List DV)(s:aS)(hs:sO args=some s)(hp:s.pre):av PG 111 args fun n r os=>r=(s.res n).1/\os=(s.res n).2:=by
 unfold sO at hs
 split at hs
 ·rename_i a_l b
  obtain rfl:=sj hs
  obtain ⟨tV,mW,hp⟩:=hp
  obtain ⟨JK,tR,tY,tX,tW⟩:=aC tV
  have this:=Xv (k_l:=tR) tX tW mW hp
  rw[<-tY] at this
  exact this
 ·cases hs
def prF (r:Int):Ac:=⟨0,r,0,0,none,none⟩
theorem NF {jQ:Nat}{k_l:SK}(Av:jQ=1\/l=[])(E0:inK .i32 l)(hp:l.length<=1000) :
  av PG 69 [.sl jQ (af .i32 l) k_l] fun n RR OO=>RR=((.own n 0 l.length,[some (.arr 6 (cz (l.map prF)))]):DV × ay).1/\OO=((.own n 0 l.length,[some (.arr 6 (cz (l.map prF)))]):DV × ay).2:=by
 refine av.di (res:=fun n=>(.own n 0 l.length,[some (.arr 6 (cz (l.map prF)))])) mN BO (by simp[pn]) fun n=>?_
 unfold pn
 dsimp only
 simp -implicitDefEqProofs -dsimp only[gw,vcR,↓vcQ,if_true,if_false,implies_true,simprocAttr,ne_eq,exists_eq_left,exists_eq_left',Function.comp_apply]
 refine bk.own 3 6 rfl (.inl rfl) ?_
 refine bk.ac1 mN (S:=fun k (i:Nat)=>⟨[(0,.sl jQ (af .i32 l) k_l),(3,.own k 0 i),(4,.int .i64 i)],List.replicate k none++ [some (.arr 6 (cz ((l.take i).map prF)))]⟩) (I:=fun i=>i<=l.length) (μ:=fun i=>l.length-i) n 0 (by omega) ?_ ?_
 ·simp -implicitDefEqProofs -dsimp only[List.take_zero,uh,gw,iQ,iT,vcR,↓vcQ,if_true,if_false,implies_true,simprocAttr,ne_eq,exists_eq_left,exists_eq_left',Function.comp_apply]
 ·intro k i hk hi
  have hL:((l.take i).map prF).length=i:=by rw[List.length_map,List.length_take];omega
  unfold ta
  simp -implicitDefEqProofs -dsimp only[hL,uh,gw,iQ,iT,vcR,↓vcQ,if_true,if_false,implies_true,simprocAttr,ne_eq,exists_eq_left,exists_eq_left',Function.comp_apply]
  refine ⟨fun h=>?_,fun h=>?_⟩
  ·have h0:i<l.length:=by omega
   have hsz:jQ=1:=by rcases Av with h | h;exact h;subst h;simp at h0
   have hgd:l.getD i 0=l[i]:=by rw[List.getD_eq_getElem?_getD,List.getElem?_eq_getElem h0];rfl
   refine ⟨⟨by omega,h,hsz⟩,h0,⟨by omega,by omega⟩,by omega,i+1,⟨⟨rfl,by rw[aO] <;> omega⟩, ?_⟩,by omega,by omega⟩
   rw[List.take_succ_eq_append_getElem h0,List.map_append,hgd]
   rfl
  ·have h1:i=l.length:=by omega
   subst h1
   rw[List.take_length]
   exact ⟨by omega,by omega,rfl,rfl⟩
def kg:List DV->Option aS
 | [a_l]=>some ⟨aD .i32 a_l/\(aG a_l).length<=1000,fun n=>(.own n 0 (aG a_l).length,[some (.arr 6 (cz ((aG a_l).map prF)))])⟩
 | _=>none
theorem qY (a_l:DV):kg [a_l]=some ⟨aD .i32 a_l/\(aG a_l).length<=1000,fun n=>(.own n 0 (aG a_l).length,[some (.arr 6 (cz ((aG a_l).map prF)))])⟩:=ak _
theorem JP (args:List DV)(s:aS)(hs:kg args=some s)(hp:s.pre):av PG 69 args fun n r os=>r=(s.res n).1/\os=(s.res n).2:=by
 unfold kg at hs
 split at hs
 ·rename_i a_l
  obtain rfl:=sj hs
  obtain ⟨tV,hp⟩:=hp
  obtain ⟨JK,tR,tY,tX,tW⟩:=aC tV
  have this:=NF (k_l:=tR) tX tW hp
  rw[<-tY] at this
  exact this
 ·cases hs
def m6:RFn:=⟨1,6,(SR [MB 2 false] [0] (SR [MV 3 0,OP 4 (.call 86 [.t 3]),OP 5 (.un .not (.t 4)),MV 2 5] [2] .ret)),[.t 2]⟩
theorem zT:aK PG.P (aA PG.P 85 m6) 85=some m6:=by kernel_rfl
theorem Cm (args:List DV):tab T27 86 args=(jN args).map .o:=ak _
theorem Jj (mW:0<=b/\b<=255) :
  av PG 85 [.int .u8 b] fun n RR OO=>RR=((.bool (!cW b),[]):DV × ay).1/\OO=((.bool (!cW b),[]):DV × ay).2:=by
 refine av.di (res:=fun n=>(.bool (!cW b),[])) mN zT (by simp[m6]) fun n=>?_
 unfold m6
 dsimp only
 simp -implicitDefEqProofs -dsimp only[Cm,mQ,gw,iQ,iT,vcR,↓vcQ,if_true,if_false,implies_true,simprocAttr,ne_eq,exists_eq_left,exists_eq_left',Function.comp_apply]
 exact mW
def mP:List DV->Option aS
 | [.int .u8 b]=>some ⟨(0<=b/\b<=255)/\True,fun n=>(.bool (!cW b),[])⟩
 | _=>none
theorem wB (b:Int):mP [.int .u8 b]=some ⟨(0<=b/\b<=255)/\True,fun n=>(.bool (!cW b),[])⟩:=ak _
theorem F6 (args:List DV)(s:aS)(hs:mP args=some s)(hp:s.pre):av PG 85 args fun n r os=>r=(s.res n).1/\os=(s.res n).2:=by
 unfold mP at hs
 split at hs
 ·rename_i b
  obtain rfl:=sj hs
  obtain ⟨mW,hp⟩:=hp
  have this:=Jj mW
  exact this
 ·cases hs
def adP:FL:=(85,mP)::T27
theorem ME:FOk PG (tab adP):=FOk.cons mN F6
theorem oz (args:List DV):tab adP 85 args=(mP args).map .o:=ak _
theorem UN:fR PG.P 85=true:=by kernel_rfl
def yJ (l:List Int):Int:=match l.findIdx? (fun b=>!cW b) with
 | some i=>i
 | none=>-1
def nX:RC:=(SR [BT 9 .lss 8 7] [0,1,7,8,9] (.seq (.cond (.t 9) .skip (.ext 0)) (.seq (.blk 1 (SR [MV 10 8,MV 5 10] [0,1,5,7,8] (SR [MV 11 1,MV 12 0,MV 13 5,OP 14 (.aT 1 (.t 12) (.t 13)),LD 15 14,OP 16 (.iP (.t 11) [.t 15])] [0,1,5,7,8,16] (.cond (.t 16) (SR [MV 17 5,MV 4 17] [4] .ret) .skip)))) (.reg [BI 18 .add 8 1,MV 8 18] 0 [0,1,7,8]))))
def kn:RFn:=⟨2,19,(SR [OP 4 (.mov (.c (.int .i64 0)))] [0,1] (.seq (SR [MV 6 0,OP 7 (.len (.t 6)),OP 8 (.mov (.c (.int .i64 0)))] [0,1,7,8] (.blk 0 (.loop nX))) (SR [OP 4 (.mov (.c (.int .i64 (-1))))] [4] .ret))),[.t 4]⟩
theorem wX:aK PG.P (aA PG.P 124 kn) 124=some kn:=by kernel_rfl
theorem D4 {sz:Nat}{k:SK}(hs:sz=1\/l=[])(hk:inK .u8 l) :
  av PG 124 [.sl sz (af .u8 l) k,.lit (.func (.func 85) #[] #[])] fun n r os=>r=.int .i64 (yJ l)/\os=[]:=by
 refine av.di (res:=fun n=>(.int .i64 (yJ l),[])) ME wX (by simp[kn]) fun n=>?_
 unfold kn
 dsimp only
 simp -implicitDefEqProofs -dsimp only[oz,wB,UN,↓bh,ud,gw,iQ,iT,vcR,↓vcQ,if_true,if_false,implies_true,simprocAttr,ne_eq,exists_eq_left,exists_eq_left',Function.comp_apply]
 refine bk.inv ME (S:=fun i:Nat=>⟨[(0,.sl sz (af .u8 l) k),(1,.lit (.func (.func 85) #[] #[])),(7,.int .i64 l.length),(8,.int .i64 i)],List.replicate n none⟩) (I:=fun i=>i<=l.length/\∀j,j<i->cW (l.getD j 0)=true) (μ:=fun i=>l.length-i) 0 ⟨by omega,by omega⟩ ?_ ?_
 ·simp -implicitDefEqProofs -dsimp only[gw,iQ,iT,vcR,↓vcQ,if_true,if_false,implies_true,simprocAttr,ne_eq,exists_eq_left,exists_eq_left',Function.comp_apply]
  exact fK _
 ·intro i ⟨hi,hv⟩
  unfold nX
  simp -implicitDefEqProofs -dsimp only[oz,wB,UN,↓bh,ud,gw,iQ,iT,vcR,↓vcQ,if_true,if_false,implies_true,simprocAttr,ne_eq,exists_eq_left,exists_eq_left',Function.comp_apply]
  refine ⟨fun h=>?_,fun h=>?_⟩
  ·have h0:i<l.length:=by omega
   have hsz:sz=1:=by rcases hs with h | h;exact h;subst h;simp at h0
   have hgd:l.getD i 0=l[i]:=by rw[List.getD_eq_getElem?_getD,List.getElem?_eq_getElem h0];rfl
   refine ⟨⟨by omega,h,hsz⟩,h0,hk.u8 (by rw[hgd];exact List.getElem_mem _), ?_⟩
   have hkl:=hk.1
   cases hvi:cW (l.getD i 0) with
   | true=>
    rw[iB]
    refine ⟨i+1,⟨fK _,by rw[aO] <;> omega⟩,⟨by omega,fun j hj=>?_⟩,by omega⟩
    by_cases hji:j=i
    ·subst hji;exact hvi
    ·exact hv j (by omega)
   | false=>
    rw[gm]
    have:l.findIdx? (fun b=>!cW b)=some i:=by
     rw[List.findIdx?_eq_some_iff_getElem]
     refine ⟨h0,by rw[<-hgd,hvi];rfl,fun j hj=>?_⟩
     have h2:=hv j hj
     rw[List.getD_eq_getElem?_getD,List.getElem?_eq_getElem (by omega)] at h2
     simpa using h2
    simp[yJ,this]
  ·have:l.findIdx? (fun b=>!cW b)=none:=by
    rw[List.findIdx?_eq_none_iff]
    intro x hx
    obtain ⟨j,hj,rfl⟩:=List.getElem_of_mem hx
    have h2:=hv j (by omega)
    rw[List.getD_eq_getElem?_getD,List.getElem?_eq_getElem hj] at h2
    simpa using h2
   simp[yJ,this]
def T30:FL:=(55,mS)::(68,mz)::(111,sO)::(69,kg)::T27
theorem Lq:FOk PG (tab T30):=FOk.cons (FOk.cons (FOk.cons (FOk.cons (mN) JP) Rp) JS) NJ
theorem Ch (args:List DV):tab T30 55 args=(mS args).map .o:=ak _
theorem Bi (args:List DV):tab T30 68 args=(mz args).map .o:=ak _
theorem Fw (args:List DV):tab T30 111 args=(sO args).map .o:=ak _
theorem Bh (args:List DV):tab T30 69 args=(kg args).map .o:=ak _
theorem Fu (args:List DV):tab T30 33 args=(sM args).map .o:=ak _
theorem Bf (args:List DV):tab T30 59 args=(mw args).map .o:=ak _
theorem Iz (args:List DV):tab T30 126 args=(xJ args).map .o:=ak _
theorem Ck (args:List DV):tab T30 57 args=(mU args).map .o:=ak _
theorem Cj (args:List DV):tab T30 58 args=(mT args).map .o:=ak _
theorem Cg (args:List DV):tab T30 86 args=(jN args).map .o:=ak _
theorem Fv (args:List DV):tab T30 90 args=(nC args).map .o:=ak _
theorem Fx (args:List DV):tab T30 67 args=(l7 args).map .o:=ak _
theorem Ft (args:List DV):tab T30 110 args=(nB args).map .o:=ak _
theorem Bj (args:List DV):tab T30 54 args=(gQ args).map .o:=ak _
theorem IA (args:List DV):tab T30 60 args=(nK args).map .o:=ak _
theorem Bg (args:List DV):tab T30 50 args=(gP args).map .o:=ak _
theorem Ci (args:List DV):tab T30 89 args=(jP args).map .o:=ak _
theorem IC (args:List DV):tab T30 83 args=(pV args).map .o:=ak _
theorem IB (args:List DV):tab T30 125 args=(pT args).map .o:=ak _
theorem Lr (args:List DV):tab T30 87 args=(qZ args).map .o:=ak _
def adO:=J @Ch<|J @mR<|J @Bi<|J @yB<|J @Fw<|J @DR<|J @Bh<|J @qY<|J @Fu<|J @DQ<|J @Bf<|J @yA<|J @Iz<|J @I3<|J @Ck<|J @ur<|J @Cj<|J @uq<|J @Cg<|J @mQ<|J @Fv<|J @sN<|J @Fx<|J @oF<|J @Ft<|J @sL<|J @Bj<|J @jA<|J @IA<|J @oD<|J @Bg<|J @gv<|J @Ci<|J @ji<|J @IC<|J @oG<|J @IB<|J @oE<|J @Lr<|@fU
def za:RFn:=⟨2,102,(SR [OP 2 (.box 5 (.t 0)),OP 4 (.alloc [.int .i64 0,.int .u8 0,.sl 0 [] .nil,.sl 0 [] .nil,.sl 0 [] .nil]),OP 5 (.mov (.c (.sl 0 [] .nil)))] [1,2,4] (SR [OP 9 (.build [.int .i64 0,.int .u8 0,.sl 0 [] .nil,.sl 0 [] .nil,.sl 0 [] .nil] [(0,(1,(.c (.int .i64 6))))]),OP 6 (.alloc [.int .i64 0,.int .u8 0,.sl 0 [] .nil,.sl 0 [] .nil,.sl 0 [] .nil]),SA 5 6 9] [1,2,4,6] (.seq (.blk 0 (SR [MV 11 1,OP 12 (.bin .geq (.t 11) (.c (.int .u8 64))),MV 10 12] [1,2,4,6,10] (.cond (.t 10) (.seq (.cJ (.take (OP 13 (.build [.int .i64 0,.int .u8 0,.sl 0 [] .nil,.sl 0 [] .nil,.sl 0 [] .nil] [])) [] (.take (MV 14 1) [] (.take (FA 15 1 2) [] (.take (LD 16 15) [.t 4] (.take (FA 17 2 2) [] (.take (LD 18 17) [.t 4] (.take (FA 19 3 2) [] (.take (LD 20 19) [.t 4] (.take (OP 21 (.build [.int .i64 0,.int .i32 0,.int .u8 0,.int .u8 0,.sl 0 [] .nil,.sl 0 [] .nil] [(0,(1,(.c (.int .i64 3)))),(2,(1,(.t 14))),(3,(1,(.t 16))),(4,(1,(.t 18))),(5,(1,(.t 20)))])) [] (.alt (.op (OP 22 (.bK 6 [.int .i64 0,.int .i32 0,.int .u8 0,.int .u8 0,.sl 0 [] .nil,.sl 0 [] .nil] 1 [(0,(.t 21))])) (.op (SA 5 4 13) (.take (MV 5 22) [] .done))) (.op (SA 5 4 13) (.op (OP 22 (.bK 6 [.int .i64 0,.int .i32 0,.int .u8 0,.int .u8 0,.sl 0 [] .nil,.sl 0 [] .nil] 1 [(0,(.t 21))])) (.take (MV 5 22) [] .done))))))))))))) 0 [4,5]) .ret) (SR [MV 24 1,OP 25 (.call 55 [.t 24]),MV 23 25] [1,2,4,6,23] (.cond (.t 23) (.seq (SR [FA 26 3 2,LD 27 26,OP 28 (.len (.t 27)),BI 29 .geq 28 2] [1,2,4,6,29] (.cond (.t 29) (SR [LT 30 5 6,SA 5 4 30,OP 5 (.mov (.c (.sl 0 [] .nil)))] [4,5] .ret) .skip)) (SR [FA 31 3 2,LD 32 31,MV 33 1,OP 34 (.call 111 [.t 32,.t 33]),FA 35 0 2,NP (.store 1 (.t 35) (.c (.int .i64 5))),FA 36 3 2,SA 1 36 34] [2,4] (SR [LT 37 5 2,SA 5 4 37,OP 5 (.mov (.c (.sl 0 [] .nil)))] [4,5] .ret))) (SR [FA 39 0 2,LD 40 39,BI 41 .eql 40 5,MV 42 41,MG 43 1 42 false,OG 44 (.bin .eql (.t 43) (.c (.int .u8 58))) 42 false,OP 45 (.pick (.t 42) (.c (.bool true)) (.t 44)),MV 38 45] [1,2,4,6,38] (.cond (.t 38) (SR [LT 46 5 6,SA 5 4 46,OP 5 (.mov (.c (.sl 0 [] .nil)))] [4,5] .ret) (SR [MV 48 1,OP 49 (.bin .geq (.t 48) (.c (.int .u8 60))),MV 47 49] [1,2,4,6,47] (.cond (.t 47) (.seq (SR [FA 50 2 2,LD 51 50,OP 52 (.len (.t 51)),BI 53 .gtr 52 0,MV 54 53,FG 55 1 2 54 false,LG 56 55 54 false,OG 57 (.bin .neq (.t 56) (.c (.int .u8 0))) 54 false,OP 58 (.pick (.t 54) (.c (.bool true)) (.t 57))] [1,2,4,6,58] (.cond (.t 58) (SR [LT 59 5 6,SA 5 4 59,OP 5 (.mov (.c (.sl 0 [] .nil)))] [4,5] .ret) .skip)) (SR [MV 60 1,FA 61 1 2,SA 1 61 60] [2,4] (SR [LT 62 5 2,SA 5 4 62,OP 5 (.mov (.c (.sl 0 [] .nil)))] [4,5] .ret))) .skip))))))))) (SR [FA 63 2 2,LD 64 63,OP 65 (.append 1 8 (.c (.sl 0 [] .nil)) (.t 64)),MV 7 65] [1,2,4,6,7] (.seq (SR [MV 66 7,OP 67 (.len (.t 66)),BI 68 .eql 67 0] [1,2,4,6,7,68] (.cond (.t 68) (.reg [MV 69 7,OP 70 (.bK 1 [.int .i64 0] 1 [(0,(.c (.int .i64 0)))]),OP 71 (.append 1 8 (.t 69) (.t 70)),MV 7 71] 0 [1,2,4,6,7]) .skip)) (.seq (SR [MV 72 1,OP 73 (.bin .eql (.t 72) (.c (.int .u8 59)))] [1,2,4,6,7,73] (.cond (.t 73) (.seq (SR [MV 74 7,OP 75 (.len (.t 74)),BI 76 .geq 75 16] [2,4,6,7,76] (.cond (.t 76) (SR [LT 77 5 6,SA 5 4 77,OP 5 (.mov (.c (.sl 0 [] .nil)))] [4,5] .ret) .skip)) (SR [MV 78 7,OP 79 (.bK 1 [.int .i64 0] 1 [(0,(.c (.int .i64 0)))]),OP 80 (.append 1 8 (.t 78) (.t 79)),FA 81 2 2,SA 1 81 80] [2,4] (SR [LT 82 5 2,SA 5 4 82,OP 5 (.mov (.c (.sl 0 [] .nil)))] [4,5] .ret))) .skip)) (SR [MV 83 7,OP 84 (.len (.t 83)),BI 85 .sub 84 1,MV 8 85] [1,2,4,7,8] (SR [MV 86 7,MV 87 8,MV 88 7,MV 89 8,OP 90 (.aT 1 (.t 88) (.t 89)),LD 91 90,OP 92 (.bin .mul (.c (.int .i64 10)) (.t 91)),MV 93 1,OP 94 (.bin .sub (.t 93) (.c (.int .u8 48))),OP 95 (.conv (.i2i .i64) (.t 94)),BT 96 .add 92 95,OP 97 (.mm false (.t 96) (.c (.int .i64 65535))),OP 98 (.aT 1 (.t 86) (.t 87)),SA 1 98 97] [2,4,7] (SR [MV 99 7,FA 100 2 2,SA 1 100 99] [2,4] (SR [LT 101 5 2,SA 5 4 101,OP 5 (.mov (.c (.sl 0 [] .nil)))] [4,5] .ret)))))))))),[.c 4 true 5,.t 5]⟩
theorem J1:aK PG.P (aA PG.P 112 za) 112=some za:=by kernel_rfl
def kM (p:Pa)(b:Int):Pa × List Ac:=
 if 64<=b then jU p b
 else if cW b=true then (if 2<=(p.I.length:Int) then (pa0 6,[]) else (⟨5,p.pr,p.P,p.I++ [b],p.U⟩,[]))
 else if p.m=5\/b=58 then (pa0 6,[])
 else if 60<=b then (if 0<(p.P.length:Int)\/p.pr≠0 then (pa0 6,[]) else (⟨p.m,b,p.P,p.I,p.U⟩,[]))
 else if (p.P.length:Int)=0 then (if b=59 then (⟨p.m,p.pr,[0,0],p.I,p.U⟩,[]) else (⟨p.m,p.pr,[min (b-48) 65535],p.I,p.U⟩,[]))
 else if b=59 then (if 16<=(p.P.length:Int) then (pa0 6,[]) else (⟨p.m,p.pr,p.P++ [0],p.I,p.U⟩,[]))
 else (⟨p.m,p.pr,mX p.P b,p.I,p.U⟩,[])
theorem aaR (hp:cS p)(hb:32<=b/\b<=255):av PG 112 [paD p,.int .u8 b] fun n r os=>r=(paF (kM p b)).1/\os=[]:=by
 obtain ⟨m,pr,P,I,U⟩:=p
 obtain ⟨h1,h2,h3,h4,h5,h6,h7⟩:=hp
 simp only at h1 h2 h3 h4 h5 h6 h7
 refine av.iR (res:=fun n=>paF (kM ⟨m,pr,P,I,U⟩ b)) Lq J1 (by simp[za]) fun n=>?_
 unfold za
 dsimp only[paD]
 simp -implicitDefEqProofs -dsimp only[adO,mH,fI,aL,List.length_set,List.take_length,yd,uh,gw,iQ,iT,vcR,↓vcQ,if_true,if_false,implies_true,simprocAttr,ne_eq,exists_eq_left,exists_eq_left',Function.comp_apply]
 have ht1:List.take (P.length+1) (P++ [0])=P++ [0]:=List.take_of_length_le (by simp)
 have ht2:∀k v,List.take P.length (P.set k v)=P.set k v:=fun k v=>List.take_of_length_le (by simp)
 have ht3:List.take (I.length+1) (I++ [b])=I++ [b]:=List.take_of_length_le (by simp)
 have OE:IntKind.i64.wrap ((P.length:Int)-1)=(P.length:Int)-1:=aO (by omega) (by omega)
 have hw8:¬64<=b->cW b=false->IntKind.u8.wrap (b-48)=b-48/\IntKind.i64.wrap (b-48)=b-48/\IntKind.i64.wrap (0+(b-48))=b-48:=fun h hv=>by
  simp only[cW,Bool.and_eq_false_iff,decide_eq_false_iff_not] at hv
  rw[Int.zero_add]
  exact ⟨wU8 (by omega) (by omega),aO (by omega) (by omega),aO (by omega) (by omega)⟩
 have hd:0<P.length->min (IntKind.i64.wrap (IntKind.i64.wrap (10*P.getD (P.length-1) 0)+(b-48))) 65535=min (10*P.getD (P.length-1) 0+(b-48)) 65535:=fun h=>by
  have hmem:P.getD (P.length-1) 0∈P:=by
   rw[List.getD_eq_getElem?_getD,List.getElem?_eq_getElem (by omega)]
   exact List.getElem_mem _
  have:=h7 _ hmem
  rw[aO (n:=10*P.getD (P.length-1) 0) (by omega) (by omega),aO (by omega) (by omega)]
 have OD:((P.length:Int)-1).toNat=P.length-1:=by omega
 simp only[ht1,ht2,ht3]
 clear h7 ht1 ht2 ht3
 rcases Nat.eq_zero_or_pos P.length with hP | hP
 ·have:P=[]:=List.eq_nil_of_length_eq_zero hP
  subst this
  clear hd OE OD hP
  simp -implicitDefEqProofs -dsimp only[List.length_nil,List.nil_append,Nat.zero_add]
  simp only[pN]
  (repeat' (first | with_reducible exact Or.inl rfl | intro _ | (with_reducible apply And.intro)))
  all_goals first
   | exact .inl rfl | exact .inr rfl | exact .inr ⟨rfl,trivial⟩
   | trivial
   | assumption
   | omega
   | exact rfl
   | (dsimp only[kM];(repeat (first | rw[if_pos (by first | omega | assumption | exact Or.inl (by assumption) | exact Or.inr (by assumption))] | rw[if_neg (by first | omega | exact Bool.eq_false_iff.1 (by assumption) | exact Bool.eq_true_imp_not_false (by assumption) | assumption)]));first | exact fK _ | rfl | (simp[paF,paR,paD,pa0,jU,dH,cL,dI,dJ,dA,ff,fe,bX,bu];done))
   | (rename_i hh;exact (h1.2 _ hh).1)
   | (rename_i hh;exact (h1.2 _ hh).2)
   | (rename_i hh;exact (h2.2 _ hh).1)
   | (rename_i hh;exact (h2.2 _ hh).2)
   | (rename_i hh;exact (h3.2 _ hh).1)
   | (rename_i hh;exact (h3.2 _ hh).2)
   | (show List.length _<=_;dsimp only;omega)
   | decide
   | (dsimp only[kM];(repeat (first | rw[if_pos (by first | omega | assumption | exact Or.inl (by assumption) | exact Or.inr (by assumption))] | rw[if_neg (by first | omega | exact Bool.eq_false_iff.1 (by assumption) | exact Bool.eq_true_imp_not_false (by assumption) | assumption)]));(simp[paF,paR,paD,pa0,jU,mX,dH,cL,dI,dJ,dA,ff,fe,bX,bu, *];done))
   | (simp[*];done)
   | skip
  obtain ⟨e1,e2,e3⟩:=hw8 (by assumption) (by assumption)
  have hf:kM ⟨m,pr,[],I,U⟩ b=(⟨m,pr,[min (b-48) 65535],I,U⟩,[]):=by
   dsimp only[kM]
   rw[if_neg (by assumption),if_neg (by rw[‹cW b=false›];decide),if_neg (by omega),if_neg (by omega),if_pos (by simp),if_neg (by assumption)]
  rw[hf,e1,e2,show IntKind.i64.wrap (((1:Nat):Int)-1)=0 from by decide]
  simp only[Int.toNat_zero,List.getD_cons_zero,show IntKind.i64.wrap (10*0)=0 from by decide,e3]
  simp[paF,paR,paD,dH,cL,dI,dJ,dA,ff,fe,bX,bu]
 ·have hd:=hd hP
  simp only[OE,OD]
  clear OE OD
  simp only[pN]
  (repeat' (first | with_reducible exact Or.inl rfl | intro _ | (with_reducible apply And.intro)))
  all_goals first
   | exact .inl rfl | exact .inr rfl | exact .inr ⟨rfl,trivial⟩
   | trivial
   | assumption
   | omega
   | exact rfl
   | (dsimp only[kM];(repeat (first | rw[if_pos (by first | omega | assumption | exact Or.inl (by assumption) | exact Or.inr (by assumption))] | rw[if_neg (by first | omega | exact Bool.eq_false_iff.1 (by assumption) | exact Bool.eq_true_imp_not_false (by assumption) | assumption)]));first | exact fK _ | rfl | (simp[paF,paR,paD,pa0,jU,dH,cL,dI,dJ,dA,ff,fe,bX,bu];done))
   | (rename_i hh;exact (h1.2 _ hh).1)
   | (rename_i hh;exact (h1.2 _ hh).2)
   | (rename_i hh;exact (h2.2 _ hh).1)
   | (rename_i hh;exact (h2.2 _ hh).2)
   | (rename_i hh;exact (h3.2 _ hh).1)
   | (rename_i hh;exact (h3.2 _ hh).2)
   | (show List.length _<=_;dsimp only;omega)
   | decide
   | (dsimp only[kM];(repeat (first | rw[if_pos (by first | omega | assumption | exact Or.inl (by assumption) | exact Or.inr (by assumption))] | rw[if_neg (by first | omega | exact Bool.eq_false_iff.1 (by assumption) | exact Bool.eq_true_imp_not_false (by assumption) | assumption)]));(simp[paF,paR,paD,pa0,jU,mX,dH,cL,dI,dJ,dA,ff,fe,bX,bu, *];done))
   | (simp[*];done)
   | skip
  obtain ⟨e1,e2,e3⟩:=hw8 (by assumption) (by assumption)
  have hf:kM ⟨m,pr,P,I,U⟩ b=(⟨m,pr,mX P b,I,U⟩,[]):=by
   dsimp only[kM]
   rw[if_neg (by assumption),if_neg (by rw[‹cW b=false›];decide),if_neg (by omega),if_neg (by omega),if_neg (by assumption),if_neg (by assumption)]
  rw[hf,e1,e2,hd]
  simp[paF,paR,paD,mX,dH,cL,dI,dJ,dA,ff,fe,bX,bu]
def qR (p:Pa)(b:Int):Prop:=cS p/\32<=b/\b<=255
def VO:=CB kM qR
theorem XU (args:List DV)(s:aS)(hs:VO args=some s)(hp:s.pre):av PG 112 args fun n r os=>r=(s.res n).1/\os=(s.res n).2:=
 Sd (g:=kM) (q:=qR) (fun p b h=>aaR h.1 h.2) args s hs hp
def T31:FL:=(112,VO)::T30
theorem VH:FOk PG (tab T31):=FOk.cons Lq XU
theorem Lp (args:List DV):tab T31 112 args=(CB kM qR args).map .o:=ak _
theorem Fs (args:List DV):tab T31 55 args=(mS args).map .o:=ak _
theorem Ix (args:List DV):tab T31 111 args=(sO args).map .o:=ak _
theorem Cf (args:List DV):tab T31 69 args=(kg args).map .o:=ak _
theorem Iy (args:List DV):tab T31 67 args=(l7 args).map .o:=ak _
def r7:RFn:=⟨2,141,(SR [OP 2 (.box 5 (.t 0)),OP 4 (.alloc [.int .i64 0,.int .u8 0,.sl 0 [] .nil,.sl 0 [] .nil,.sl 0 [] .nil]),OP 5 (.mov (.c (.sl 0 [] .nil)))] [1,2,4] (.seq (.blk 0 (SR [MV 9 1,OP 10 (.bin .eql (.t 9) (.c (.int .u8 24))),MV 11 10,MG 12 1 11 false,OG 13 (.bin .eql (.t 12) (.c (.int .u8 26))) 11 false,OP 14 (.pick (.t 11) (.c (.bool true)) (.t 13)),MV 8 14] [1,2,4,8] (.cond (.t 8) (SR [OP 15 (.build [.int .i64 0,.int .u8 0,.sl 0 [] .nil,.sl 0 [] .nil,.sl 0 [] .nil] []),SA 5 4 15,OP 5 (.mov (.c (.sl 0 [] .nil)))] [4,5] .ret) (SR [MV 17 1,OP 18 (.bin .eql (.t 17) (.c (.int .u8 27))),MV 16 18] [1,2,4,16] (.cond (.t 16) (SR [OP 19 (.build [.int .i64 0,.int .u8 0,.sl 0 [] .nil,.sl 0 [] .nil,.sl 0 [] .nil] [(0,(1,(.c (.int .i64 1))))]),SA 5 4 19,OP 5 (.mov (.c (.sl 0 [] .nil)))] [4,5] .ret) (SR [FA 21 0 2,LD 22 21,BI 23 .eql 22 0,MV 20 23] [1,2,4,20] (.cond (.t 20) (.seq (SR [MV 24 1,OP 25 (.bin .lss (.t 24) (.c (.int .u8 32)))] [1,4,25] (.cond (.t 25) (SR [OP 26 (.build [.int .i64 0,.int .u8 0,.sl 0 [] .nil,.sl 0 [] .nil,.sl 0 [] .nil] []),MV 27 1,OP 28 (.build [.int .i64 0,.int .i32 0,.int .u8 0,.int .u8 0,.sl 0 [] .nil,.sl 0 [] .nil] [(0,(1,(.c (.int .i64 1)))),(2,(1,(.t 27)))]),OP 29 (.bK 6 [.int .i64 0,.int .i32 0,.int .u8 0,.int .u8 0,.sl 0 [] .nil,.sl 0 [] .nil] 1 [(0,(.t 28))]),SA 5 4 26,MV 5 29] [4,5] .ret) .skip)) (.seq (SR [MV 30 1,OP 31 (.bin .eql (.t 30) (.c (.int .u8 127)))] [1,4,31] (.cond (.t 31) (SR [OP 32 (.build [.int .i64 0,.int .u8 0,.sl 0 [] .nil,.sl 0 [] .nil,.sl 0 [] .nil] []),SA 5 4 32,OP 5 (.mov (.c (.sl 0 [] .nil)))] [4,5] .ret) .skip)) (SR [MV 34 1,OP 35 (.call 67 [.c (.sl 0 [] .nil),.t 34]),MV 33 35,OP 36 (.ext (.t 33) 0),OP 37 (.ext (.t 33) 1),MV 6 36,MV 7 37] [4,6,7] (SR [MV 38 6,OP 39 (.build [.int .i64 0,.int .u8 0,.sl 0 [] .nil,.sl 0 [] .nil,.sl 0 [] .nil] [(4,(1,(.t 38)))]),MV 40 7,OP 41 (.call 69 [.t 40]),SA 5 4 39,MV 5 41] [4,5] .ret)))) (SR [FA 43 0 2,LD 44 43,BI 45 .eql 44 7,MV 42 45] [1,2,4,42] (.cond (.t 42) (.seq (SR [MV 46 1,OP 47 (.bin .eql (.t 46) (.c (.int .u8 7)))] [2,4,47] (.cond (.t 47) (SR [OP 48 (.build [.int .i64 0,.int .u8 0,.sl 0 [] .nil,.sl 0 [] .nil,.sl 0 [] .nil] []),SA 5 4 48,OP 5 (.mov (.c (.sl 0 [] .nil)))] [4,5] .ret) .skip)) (SR [LT 49 5 2,SA 5 4 49,OP 5 (.mov (.c (.sl 0 [] .nil)))] [4,5] .ret)) (SR [MV 51 1,OP 52 (.bin .lss (.t 51) (.c (.int .u8 32))),MV 50 52] [1,2,4,50] (.cond (.t 50) (SR [LT 53 5 2,MV 54 1,OP 55 (.build [.int .i64 0,.int .i32 0,.int .u8 0,.int .u8 0,.sl 0 [] .nil,.sl 0 [] .nil] [(0,(1,(.c (.int .i64 1)))),(2,(1,(.t 54)))]),OP 56 (.bK 6 [.int .i64 0,.int .i32 0,.int .u8 0,.int .u8 0,.sl 0 [] .nil,.sl 0 [] .nil] 1 [(0,(.t 55))]),SA 5 4 53,MV 5 56] [4,5] .ret) (SR [MV 58 1,OP 59 (.bin .eql (.t 58) (.c (.int .u8 127))),MV 57 59] [1,2,4,57] (.cond (.t 57) (SR [LT 60 5 2,SA 5 4 60,OP 5 (.mov (.c (.sl 0 [] .nil)))] [4,5] .ret) (SR [MV 62 1,OP 63 (.bin .geq (.t 62) (.c (.int .u8 128))),MV 61 63] [1,2,4,61] (.cond (.t 61) (SR [OP 64 (.build [.int .i64 0,.int .u8 0,.sl 0 [] .nil,.sl 0 [] .nil,.sl 0 [] .nil] []),SA 5 4 64,OP 5 (.mov (.c (.sl 0 [] .nil)))] [4,5] .ret) .skip))))))))))))))) (.seq (SR [FA 65 0 2,LD 66 65] [1,2,4,66] (.blk 1 (SR [BI 68 .eql 66 1,MV 67 68] [1,2,4,66,67] (.cond (.t 67) (.seq (.blk 2 (SR [MV 70 1,OP 71 (.call 55 [.t 70]),MV 69 71] [1,4,69] (.cond (.t 69) (SR [MV 72 1,OP 73 (.bK 1 [.int .u8 0] 1 [(0,(.t 72))]),OP 74 (.build [.int .i64 0,.int .u8 0,.sl 0 [] .nil,.sl 0 [] .nil,.sl 0 [] .nil] [(0,(1,(.c (.int .i64 2)))),(3,(1,(.t 73)))]),SA 5 4 74,OP 5 (.mov (.c (.sl 0 [] .nil)))] [4,5] .ret) (SR [MV 76 1,OP 77 (.bin .eql (.t 76) (.c (.int .u8 91))),MV 75 77] [1,4,75] (.cond (.t 75) (SR [OP 78 (.build [.int .i64 0,.int .u8 0,.sl 0 [] .nil,.sl 0 [] .nil,.sl 0 [] .nil] [(0,(1,(.c (.int .i64 4))))]),SA 5 4 78,OP 5 (.mov (.c (.sl 0 [] .nil)))] [4,5] .ret) (SR [MV 80 1,OP 81 (.bin .eql (.t 80) (.c (.int .u8 93))),MV 82 81,MG 83 1 82 false,OG 84 (.bin .eql (.t 83) (.c (.int .u8 80))) 82 false,OP 85 (.pick (.t 82) (.c (.bool true)) (.t 84)),MV 86 85,MG 87 1 86 false,OG 88 (.bin .eql (.t 87) (.c (.int .u8 88))) 86 false,OP 89 (.pick (.t 86) (.c (.bool true)) (.t 88)),MV 90 89,MG 91 1 90 false,OG 92 (.bin .eql (.t 91) (.c (.int .u8 94))) 90 false,OP 93 (.pick (.t 90) (.c (.bool true)) (.t 92)),MV 94 93,MG 95 1 94 false,OG 96 (.bin .eql (.t 95) (.c (.int .u8 95))) 94 false,OP 97 (.pick (.t 94) (.c (.bool true)) (.t 96)),MV 79 97] [1,4,79] (.cond (.t 79) (SR [OP 98 (.build [.int .i64 0,.int .u8 0,.sl 0 [] .nil,.sl 0 [] .nil,.sl 0 [] .nil] [(0,(1,(.c (.int .i64 7))))]),SA 5 4 98,OP 5 (.mov (.c (.sl 0 [] .nil)))] [4,5] .ret) .skip))))))) (SR [OP 99 (.build [.int .i64 0,.int .u8 0,.sl 0 [] .nil,.sl 0 [] .nil,.sl 0 [] .nil] []),MV 100 1,OP 101 (.build [.int .i64 0,.int .i32 0,.int .u8 0,.int .u8 0,.sl 0 [] .nil,.sl 0 [] .nil] [(0,(1,(.c (.int .i64 2)))),(2,(1,(.t 100)))]),OP 102 (.bK 6 [.int .i64 0,.int .i32 0,.int .u8 0,.int .u8 0,.sl 0 [] .nil,.sl 0 [] .nil] 1 [(0,(.t 101))]),SA 5 4 99,MV 5 102] [4,5] .ret)) (SR [BI 104 .eql 66 2,MV 103 104] [1,2,4,66,103] (.cond (.t 103) (.seq (SR [MV 105 1,OP 106 (.call 55 [.t 105]),OP 107 (.un .not (.t 106))] [1,2,4,107] (.cond (.t 107) (.seq (.cJ (.take (OP 108 (.build [.int .i64 0,.int .u8 0,.sl 0 [] .nil,.sl 0 [] .nil,.sl 0 [] .nil] [])) [] (.take (MV 109 1) [] (.take (FA 110 3 2) [] (.take (LD 111 110) [.t 4] (.take (OP 112 (.build [.int .i64 0,.int .i32 0,.int .u8 0,.int .u8 0,.sl 0 [] .nil,.sl 0 [] .nil] [(0,(1,(.c (.int .i64 2)))),(2,(1,(.t 109))),(5,(1,(.t 111)))])) [] (.alt (.op (OP 113 (.bK 6 [.int .i64 0,.int .i32 0,.int .u8 0,.int .u8 0,.sl 0 [] .nil,.sl 0 [] .nil] 1 [(0,(.t 112))])) (.op (SA 5 4 108) (.take (MV 5 113) [] .done))) (.op (SA 5 4 108) (.op (OP 113 (.bK 6 [.int .i64 0,.int .i32 0,.int .u8 0,.int .u8 0,.sl 0 [] .nil,.sl 0 [] .nil] 1 [(0,(.t 112))])) (.take (MV 5 113) [] .done))))))))) 0 [4,5]) .ret) .skip)) (.seq (SR [FA 114 3 2,LD 115 114,OP 116 (.len (.t 115)),BI 117 .geq 116 2] [1,2,4,117] (.cond (.t 117) (SR [OP 118 (.build [.int .i64 0,.int .u8 0,.sl 0 [] .nil,.sl 0 [] .nil,.sl 0 [] .nil] [(0,(1,(.c (.int .i64 3))))]),SA 5 4 118,OP 5 (.mov (.c (.sl 0 [] .nil)))] [4,5] .ret) .skip)) (SR [FA 119 3 2,LD 120 119,MV 121 1,OP 122 (.call 111 [.t 120,.t 121]),OP 123 (.build [.int .i64 0,.int .u8 0,.sl 0 [] .nil,.sl 0 [] .nil,.sl 0 [] .nil] [(0,(1,(.c (.int .i64 2)))),(3,(1,(.t 122)))]),SA 5 4 123,OP 5 (.mov (.c (.sl 0 [] .nil)))] [4,5] .ret))) (SR [BI 125 .eql 66 3,MV 124 125] [1,2,4,66,124] (.cond (.t 124) (.seq (SR [MV 126 1,OP 127 (.bin .geq (.t 126) (.c (.int .u8 48)))] [2,4,127] (.cond (.t 127) (SR [OP 128 (.build [.int .i64 0,.int .u8 0,.sl 0 [] .nil,.sl 0 [] .nil,.sl 0 [] .nil] []),SA 5 4 128,OP 5 (.mov (.c (.sl 0 [] .nil)))] [4,5] .ret) .skip)) (SR [LT 129 5 2,SA 5 4 129,OP 5 (.mov (.c (.sl 0 [] .nil)))] [4,5] .ret)) (SR [BI 131 .eql 66 6,MV 130 131] [1,2,4,130] (.cond (.t 130) (.seq (SR [MV 132 1,OP 133 (.bin .geq (.t 132) (.c (.int .u8 64)))] [2,4,133] (.cond (.t 133) (SR [OP 134 (.build [.int .i64 0,.int .u8 0,.sl 0 [] .nil,.sl 0 [] .nil,.sl 0 [] .nil] []),SA 5 4 134,OP 5 (.mov (.c (.sl 0 [] .nil)))] [4,5] .ret) .skip)) (SR [LT 135 5 2,SA 5 4 135,OP 5 (.mov (.c (.sl 0 [] .nil)))] [4,5] .ret)) .skip)))))))))) (SR [LT 136 5 2,MV 137 1,OP 138 (.call 112 [.t 136,.t 137]),OP 139 (.ext (.t 138) 0),OP 140 (.ext (.t 138) 1),SA 5 4 139,MV 5 140] [4,5] .ret)))),[.c 4 true 5,.t 5]⟩
theorem Ex:aK PG.P (aA PG.P 70 r7) 70=some r7:=by kernel_rfl
def r7F (p:Pa)(b:Int):Pa × List Ac:=
 if b=24\/b=26 then (pa0 0,[])
 else if b=27 then (pa0 1,[])
 else if p.m=0 then (if b<32 then (pa0 0,[⟨1,0,b,0,none,none⟩]) else if b=127 then (pa0 0,[]) else (⟨0,0,[],[],(dw [] b).1⟩,(dw [] b).2.map prF))
 else if p.m=7 then (if b=7 then (pa0 0,[]) else (p,[]))
 else if b<32 then (p,[⟨1,0,b,0,none,none⟩])
 else if b=127 then (p,[])
 else if 128<=b then (pa0 0,[])
 else if p.m=1 then jk b
 else if p.m=2 then (if cW b=false then (pa0 0,[⟨2,0,b,0,none,some p.I⟩]) else if 2<=(p.I.length:Int) then (pa0 3,[]) else (⟨2,0,[],p.I++ [b],[]⟩,[]))
 else if p.m=3 then (if 48<=b then (pa0 0,[]) else (p,[]))
 else if p.m=6 then (if 64<=b then (pa0 0,[]) else (p,[]))
 else kM p b
theorem RE (hp:cS p)(hb:0<=b/\b<=255):av PG 70 [paD p,.int .u8 b] fun n r os=>r=(paF (r7F p b)).1/\os=[]:=by
 obtain ⟨m,pr,P,I,U⟩:=p
 have hp0:=hp
 obtain ⟨h1,h2,h3,h4,h5,h6,h7⟩:=hp
 simp only at h1 h2 h3 h4 h5 h6 h7
 refine av.iR (res:=fun n=>paF (r7F ⟨m,pr,P,I,U⟩ b)) VH Ex (by simp[r7]) fun n=>?_
 unfold r7
 dsimp only[paD]
 have e0:dw [] b=cD [] b:=qo (fQ _) hb
 have hR0:=yR (fQ .u8) hb (by simp)
 have hl0:=nM [] b
 have hK0:inK .i32 (dw [] b).2:=by rw[e0];exact Mh (by omega) fun x hx=>by have:=hR0 x hx;omega
 have hl1:(dw [] b).2.length<=1000:=by rw[e0];omega
 have ht4:List.take (dw [] b).2.length ((dw [] b).2.map prF)=(dw [] b).2.map prF:=List.take_of_length_le (by simp)
 clear e0 hR0 hl0
 simp -implicitDefEqProofs -dsimp only[Lp,Fs,Ix,Cf,Iy,List.length_map,Nat.le_refl,LH,mR,DR,qY,oF,wZ,mH,fI,tS,xm,aL,List.length_set,List.take_length,yd,uh,gw,iQ,iT,vcR,↓vcQ,if_true,if_false,implies_true,simprocAttr,ne_eq,exists_eq_left,exists_eq_left',Function.comp_apply]
 have hi:aD .i64 (.sl 1 (af .i64 P) .any):=aQ (.inl rfl) h1
 have ht3:List.take (I.length+1) (I++ [b])=I++ [b]:=List.take_of_length_le (by simp)
 simp only[ht3,ht4]
 clear h7 ht3 ht4
 simp only[pN]
 (repeat' (first | with_reducible exact Or.inl rfl | intro _ | (with_reducible apply And.intro)))
 all_goals first
  | exact .inl rfl | exact .inr rfl | exact .inr ⟨rfl,trivial⟩
  | trivial
  | assumption
  | omega
  | exact rfl
  | (dsimp only[r7F,jk];(repeat (first | rw[if_pos (by first | omega | assumption | exact Or.inl (by assumption) | exact Or.inr (by assumption))] | rw[if_neg (by first | omega | exact Bool.eq_false_iff.1 (by assumption) | exact Bool.eq_true_imp_not_false (by assumption) | assumption)]));first | exact fK _ | rfl | (simp[paF,paR,paD,pa0,jU,dH,cL,dI,dJ,dA,ff,fe,bX,bu];done))
  | (rename_i hh;exact (h1.2 _ hh).1)
  | (rename_i hh;exact (h1.2 _ hh).2)
  | (rename_i hh;exact (h2.2 _ hh).1)
  | (rename_i hh;exact (h2.2 _ hh).2)
  | (rename_i hh;exact (h3.2 _ hh).1)
  | (rename_i hh;exact (h3.2 _ hh).2)
  | (show List.length _<=_;dsimp only;omega)
  | decide
  | (dsimp only[r7F,jk];(repeat (first | rw[if_pos (by first | omega | assumption | exact Or.inl (by assumption) | exact Or.inr (by assumption))] | rw[if_neg (by first | omega | exact Bool.eq_false_iff.1 (by assumption) | exact Bool.eq_true_imp_not_false (by assumption) | assumption)]));(simp[paF,paR,paD,pa0,jU,mX,dH,cL,dI,dJ,dA,ff,fe,bX,bu, *];done))
  | (simp[*];done)
  | skip
 exact ⟨hp0,by omega,by omega⟩
theorem RS (p:Pa)(b:Int)(hp:cS p)(hb:0<=b/\b<=255):(r7F p b).2.length<=2:=by
 have e0:dw [] b=cD [] b:=qo (fQ _) hb
 have h1:=nM [] b
 unfold r7F jk kM jU
 rw[e0]
 simp only[apply_ite Prod.snd,apply_ite List.length,List.length_map,List.length_nil,List.length_cons]
 repeat' (first | apply Mf | exact h1 | omega)
def qP (p:Pa)(b:Int):Prop:=cS p/\0<=b/\b<=255
def I4:=CB r7F qP
theorem ND (args:List DV)(s:aS)(hs:I4 args=some s)(hp:s.pre):av PG 70 args fun n r os=>r=(s.res n).1/\os=(s.res n).2:=
 Sd (g:=r7F) (q:=qP) (fun p b h=>RE h.1 h.2) args s hs hp
def T32:FL:=(70,I4)::T31
theorem acq:FOk PG (tab T32):=FOk.cons VH ND
theorem Fq (args:List DV):tab T32 70 args=(CB r7F qP args).map .o:=ak _
theorem Cd (args:List DV):tab T32 68 args=(mz args).map .o:=ak _
theorem Cc (args:List DV):tab T32 69 args=(kg args).map .o:=ak _
theorem Iw (args:List DV):tab T32 67 args=(l7 args).map .o:=ak _
def si:RFn:=⟨2,75,(SR [OP 2 (.box 5 (.t 0)),OP 4 (.alloc [.int .i64 0,.int .u8 0,.sl 0 [] .nil,.sl 0 [] .nil,.sl 0 [] .nil]),OP 5 (.mov (.c (.sl 0 [] .nil)))] [1,2,4] (SR [OP 6 (.mov (.c (.sl 0 [] .nil)))] [1,2,4,6] (.seq (SR [FA 11 0 2,LD 12 11,BI 13 .eql 12 0,MV 14 13,FG 15 4 2 14 true,LG 16 15 14 true,OG 17 (.len (.t 16)) 14 true,OG 18 (.bin .gtr (.t 17) (.c (.int .i64 0))) 14 true,OP 19 (.pick (.t 14) (.t 18) (.c (.bool false)))] [1,2,4,6,19] (.cond (.t 19) (SR [FA 21 4 2,LD 22 21,MV 23 1,OP 24 (.call 67 [.t 22,.t 23]),MV 20 24,OP 25 (.ext (.t 20) 0),OP 26 (.ext (.t 20) 1),MV 7 25,MV 8 26] [1,2,4,6,7,8] (.seq (SR [MV 27 1,OP 28 (.bin .geq (.t 27) (.c (.int .u8 128))),MV 29 28,MG 30 8 29 true,OG 31 (.len (.t 30)) 29 true,OG 32 (.bin .eql (.t 31) (.c (.int .i64 0))) 29 true,MG 33 32 29 true,MG 34 8 33 false,OG 35 (.aT 1 (.t 34) (.c (.int .i64 0))) 33 false,LG 36 35 33 false,OG 37 (.bin .neq (.t 36) (.c (.int .i32 65533))) 33 false,OG 38 (.pick (.t 33) (.c (.bool true)) (.t 37)) 29 true,MG 39 38 29 true,MG 40 8 39 false,OG 41 (.len (.t 40)) 39 false,OG 42 (.bin .eql (.t 41) (.c (.int .i64 1))) 39 false,MG 43 42 39 false,MG 44 7 43 true,OG 45 (.len (.t 44)) 43 true,OG 46 (.bin .eql (.t 45) (.c (.int .i64 0))) 43 true,OG 47 (.pick (.t 43) (.t 46) (.c (.bool false))) 39 false,MG 48 47 39 false,FG 49 4 2 48 true,LG 50 49 48 true,MG 51 1 48 true,OG 52 (.call 68 [.t 50,.t 51]) 48 true,OG 53 (.pick (.t 48) (.t 52) (.c (.bool false))) 39 false,OG 54 (.pick (.t 39) (.c (.bool true)) (.t 53)) 29 true,OP 55 (.pick (.t 29) (.t 54) (.c (.bool false)))] [1,2,4,6,7,8,55] (.cond (.t 55) (SR [MV 56 7,OP 57 (.build [.int .i64 0,.int .u8 0,.sl 0 [] .nil,.sl 0 [] .nil,.sl 0 [] .nil] [(4,(1,(.t 56)))]),MV 58 8,OP 59 (.call 69 [.t 58]),SA 5 4 57,MV 5 59] [4,5] .ret) .skip)) (SR [MV 60 6,OP 61 (.build [.int .i64 0,.int .i32 0,.int .u8 0,.int .u8 0,.sl 0 [] .nil,.sl 0 [] .nil] [(0,(1,(.c (.int .i64 0)))),(1,(1,(.c (.int .i32 65533))))]),OP 62 (.bK 6 [.int .i64 0,.int .i32 0,.int .u8 0,.int .u8 0,.sl 0 [] .nil,.sl 0 [] .nil] 1 [(0,(.t 61))]),OP 63 (.append 6 64 (.t 60) (.t 62)),MV 6 63] [1,2,4,6] (.reg [FA 64 4 2,NP (.store 1 (.t 64) (.c (.sl 0 [] .nil)))] 0 [1,2,4,6])))) .skip)) (SR [LT 66 5 2,MV 67 1,OP 68 (.call 70 [.t 66,.t 67]),MV 65 68,OP 69 (.ext (.t 65) 0),OP 70 (.ext (.t 65) 1),OP 9 (.alloc [.int .i64 0,.int .u8 0,.sl 0 [] .nil,.sl 0 [] .nil,.sl 0 [] .nil]),SA 5 9 69,MV 10 70] [4,6,9,10] (.seq (.cJ (.take (MV 72 6) [] (.take (LT 71 5 9) [.t 72] (.take (MV 73 10) [] (.op (OP 74 (.append 6 64 (.t 72) (.t 73))) (.op (SA 5 4 71) (.take (MV 5 74) [] .done)))))) 0 [4,5]) .ret))))),[.c 4 true 5,.t 5]⟩
theorem EA:aK PG.P (aA PG.P 35 si) 35=some si:=by kernel_rfl
def uF (p:Pa)(b:Int):Prop:=128<=b/\((dw p.U b).2.length=0\/(dw p.U b).2.getD 0 0≠65533\/((dw p.U b).2.length=1/\(dw p.U b).1.length=0/\iq p.U b=true))
instance (p:Pa) (b:Int):Decidable (uF p b):=by unfold uF;infer_instance
def ie (p:Pa)(b:Int):Pa × List Ac:=
 if p.m=0/\0<p.U.length then
  if uF p b then (⟨0,0,[],[],(dw p.U b).1⟩,(dw p.U b).2.map prF)
  else ((r7F { p with U:=[]} b).1,prF 65533::(r7F { p with U:=[]} b).2)
 else r7F p b
theorem RP (hp:cS p)(hb:0<=b/\b<=255):av PG 35 [paD p,.int .u8 b] fun n r os=>r=(paF (ie p b)).1/\os=[]:=by
 obtain ⟨m,pr,P,I,U⟩:=p
 have hp0:=hp
 obtain ⟨h1,h2,h3,h4,h5,h6,h7⟩:=hp
 simp only at h1 h2 h3 h4 h5 h6 h7
 refine av.iR (res:=fun n=>paF (ie ⟨m,pr,P,I,U⟩ b)) acq EA (by simp[si]) fun n=>?_
 unfold si
 dsimp only[paD]
 have e0:dw U b=cD U b:=qo h3 hb
 have hR0:=yR h3 hb (by omega)
 have hl0:=nM U b
 have hK0:inK .i32 (dw U b).2:=by rw[e0];exact Mh (by omega) fun x hx=>by have:=hR0 x hx;omega
 have hl1:(dw U b).2.length<=1000:=by rw[e0];omega
 have ht4:List.take (dw U b).2.length ((dw U b).2.map prF)=(dw U b).2.map prF:=List.take_of_length_le (by simp)
 have hl2:=RS _ b hp0 hb
 have hp1:cS ⟨m,pr,P,I,[]⟩:=⟨h1,h2,fQ _,h4,h5,by simp,h7⟩
 have hl3:=RS _ b hp1 hb
 simp -implicitDefEqProofs -dsimp only[Fq,Cd,Cc,Iw,List.length_map,Nat.le_refl,LH,yB,qY,oF,wZ,mH,fI,tS,xm,aL,SZ,Mj,CP,List.length_set,List.take_length,yd,uh,gw,iQ,iT,vcR,↓vcQ,if_true,if_false,implies_true,simprocAttr,ne_eq,exists_eq_left,exists_eq_left',Function.comp_apply]
 have q1:qP ⟨m,pr,P,I,U⟩ b:=⟨hp0,hb⟩
 have q2:qP ⟨m,pr,P,I,[]⟩ b:=⟨hp1,hb⟩
 simp only[ht4]
 have fA:m=0->0<U.length->uF ⟨m,pr,P,I,U⟩ b->ie ⟨m,pr,P,I,U⟩ b=(⟨0,0,[],[],(dw U b).1⟩,(dw U b).2.map prF):=fun h1 h2 h3=>by
  unfold ie;rw[if_pos ⟨h1,h2⟩,if_pos h3]
 have fB:m=0->0<U.length->¬uF ⟨m,pr,P,I,U⟩ b->ie ⟨m,pr,P,I,U⟩ b=((r7F ⟨m,pr,P,I,[]⟩ b).1,prF 65533::(r7F ⟨m,pr,P,I,[]⟩ b).2):=fun h1 h2 h3=>by
  unfold ie;rw[if_pos ⟨h1,h2⟩,if_neg h3]
 have fC:¬(m=0/\0<U.length)->ie ⟨m,pr,P,I,U⟩ b=r7F ⟨m,pr,P,I,U⟩ b:=fun h1=>by
  unfold ie;rw[if_neg h1]
 have hk:uF ⟨m,pr,P,I,U⟩ b↔(128<=b/\((dw U b).2.length=0\/(dw U b).2.getD 0 0≠65533\/((dw U b).2.length=1/\(dw U b).1.length=0/\iq U b=true))):=Iff.rfl
 generalize hX:ie ⟨m,pr,P,I,U⟩ b=X at *
 generalize r7F ⟨m,pr,P,I,U⟩ b=X1 at *
 generalize r7F ⟨m,pr,P,I,[]⟩ b=X2 at *
 clear h7 hR0 e0 hl0 ht4 hp0 hp1
 cases hfm:iq U b <;> simp only[iB,gm] <;> rw[hfm] at hk <;> simp only[Bool.false_eq_true,and_false,or_false,and_true] at hk
 all_goals (repeat' (first | intro _ | (with_reducible apply And.intro)))
 all_goals first
  | assumption
  | omega
  | exact rfl
  | (rw[fA (by omega) (by omega) (hk.2 (by omega))];simp[paF,paR,paD,dH,cL,dI,dJ,dA,ff,fe,bX,bu];done)
  | (rw[fB (by omega) (by omega) (fun h=>by have:=hk.1 h;omega)];exact fK _)
  | (rw[fC (by omega)];exact fK _)
def jO:List DV->Option aS
 | [a,.lit v]=>some ⟨aD .u8 a/\v=.func (.func 85) #[] #[],fun n=>(.int .i64 (yJ (aG a)),[])⟩
 | _=>none
theorem Bu (a:DV)(v:Value):jO [a,.lit v]=some ⟨aD .u8 a/\v=.func (.func 85) #[] #[],fun n=>(.int .i64 (yJ (aG a)),[])⟩:=ak _
theorem Bz (args:List DV)(s:aS)(hs:jO args=some s)(hp:s.pre):av PG 124 args fun n r os=>r=(s.res n).1/\os=(s.res n).2:=by
 unfold jO at hs
 split at hs
 ·obtain rfl:=sj hs
  obtain ⟨h1,rfl⟩:=hp
  obtain ⟨s0,k0,e1,h2,h3⟩:=aC h1
  have:=D4 (k:=k0) h2 h3
  rw[<-e1] at this
  exact this
 ·cases hs
def acp:FL:=(124,jO)::T30
theorem MD:FOk PG (tab acp):=FOk.cons Lq Bz
theorem ZX (args:List DV):tab acp 124 args=(jO args).map .o:=ak _
def iG:RFn:=⟨2,9,(SR [MB 4 false] [0,1] (SR [MV 5 0,MV 6 1,OP 7 (.call 124 [.t 5,.t 6]),BI 8 .geq 7 0,MV 4 8] [4] .ret)),[.t 4]⟩
theorem sQ:aK PG.P (aA PG.P 84 iG) 84=some iG:=by kernel_rfl
theorem F7 {sz:Nat}{k:SK}(hs:sz=1\/l=[])(hk:inK .u8 l) :
  av PG 84 [.sl sz (af .u8 l) k,.lit (.func (.func 85) #[] #[])] fun n r os=>r=.bool (decide (0<=yJ l))/\os=[]:=by
 refine av.di (res:=fun n=>(.bool (decide (0<=yJ l)),[])) MD sQ (by simp[iG]) fun n=>?_
 unfold iG
 dsimp only
 have e1:aD .u8 (.sl sz (af .u8 l) k):=aQ hs hk
 simp -implicitDefEqProofs -dsimp only[ZX,Bu,e1,aL,gw,iQ,iT,vcR,↓vcQ,if_true,if_false,implies_true,simprocAttr,ne_eq,exists_eq_left,exists_eq_left',Function.comp_apply]
def lg:List DV->Option aS
 | [a,.lit v]=>some ⟨aD .u8 a/\v=.func (.func 85) #[] #[],fun n=>(.bool (decide (0<=yJ (aG a))),[])⟩
 | _=>none
theorem CA (a:DV)(v:Value):lg [a,.lit v]=some ⟨aD .u8 a/\v=.func (.func 85) #[] #[],fun n=>(.bool (decide (0<=yJ (aG a))),[])⟩:=ak _
theorem D5 (args:List DV)(s:aS)(hs:lg args=some s)(hp:s.pre):av PG 84 args fun n r os=>r=(s.res n).1/\os=(s.res n).2:=by
 unfold lg at hs
 split at hs
 ·obtain rfl:=sj hs
  obtain ⟨h1,rfl⟩:=hp
  obtain ⟨s0,k0,e1,h2,h3⟩:=aC h1
  have:=F7 (k:=k0) h2 h3
  rw[<-e1] at this
  exact this
 ·cases hs
def aco:FL:=(84,lg)::acp
theorem MC:FOk PG (tab aco):=FOk.cons MD D5
theorem ZW (args:List DV):tab aco 84 args=(lg args).map .o:=ak _
def kr (l:List Int):Bool:=decide (1<=l.length) && decide (l.length<=2) && l.all cW
theorem SE (l:List Int):decide (0<=yJ l)=!l.all cW:=by
 unfold yJ
 cases h:l.findIdx? (fun b=>!cW b) with
 | none=>
  rw[List.findIdx?_eq_none_iff] at h
  have:l.all cW=true:=List.all_eq_true.2 fun x hx=>by simpa using h x hx
  rw[this];rfl
 | some i=>
  rw[List.findIdx?_eq_some_iff_getElem] at h
  obtain ⟨h1,h2,_⟩:=h
  have:l.all cW=false:=by
   rw[List.all_eq_false]
   exact ⟨l[i],List.getElem_mem _,by simpa using h2⟩
  rw[this]
  simp
def oU:RFn:=⟨1,16,(SR [MB 2 false] [0] (SR [MV 3 0,OP 4 (.len (.t 3)),BI 5 .geq 4 1,MV 6 5,MG 7 0 6 true,OG 8 (.len (.t 7)) 6 true,OG 9 (.bin .leq (.t 8) (.c (.int .i64 2))) 6 true,OP 10 (.pick (.t 6) (.t 9) (.c (.bool false))),MV 11 10,MG 12 0 11 true,OG 13 (.call 84 [.t 12,(.c (.lit (.func (.func 85) #[] #[])))]) 11 true,OG 14 (.un .not (.t 13)) 11 true,OP 15 (.pick (.t 11) (.t 14) (.c (.bool false))),MV 2 15] [2] .ret)),[.t 2]⟩
theorem BF:aK PG.P (aA PG.P 51 oU) 51=some oU:=by kernel_rfl
theorem MZ {jQ:Nat}{k_l:SK}(Av:jQ=1\/l=[])(E0:inK .u8 l) :
  av PG 51 [.sl jQ (af .u8 l) k_l] fun n RR OO=>RR=((.bool (kr l),[]):DV × ay).1/\OO=((.bool (kr l),[]):DV × ay).2:=by
 refine av.di (res:=fun n=>(.bool (kr l),[])) MC BF (by simp[oU]) fun n=>?_
 unfold oU
 dsimp only
 have e1:aD .u8 (.sl jQ (af .u8 l) k_l):=aQ Av E0
 simp -implicitDefEqProofs -dsimp only[ZW,CA,e1,aL,SE,gw,iQ,iT,vcR,↓vcQ,if_true,if_false,implies_true,simprocAttr,ne_eq,exists_eq_left,exists_eq_left',Function.comp_apply]
 unfold kr
 refine ⟨fun a=>⟨fun b=>?_,fun b=>?_⟩,fun a=>?_⟩
 ·rw[decide_eq_true (show 1<=l.length by omega),decide_eq_true (show l.length<=2 by omega)];simp
 ·rw[decide_eq_false (show ¬l.length<=2 by omega)];simp
 ·rw[decide_eq_false (show ¬1<=l.length by omega)];simp
def oC:List DV->Option aS
 | [a_l]=>some ⟨aD .u8 a_l/\True,fun n=>(.bool (kr (aG a_l)),[])⟩
 | _=>none
theorem yz (a_l:DV):oC [a_l]=some ⟨aD .u8 a_l/\True,fun n=>(.bool (kr (aG a_l)),[])⟩:=ak _
theorem Ji (args:List DV)(s:aS)(hs:oC args=some s)(hp:s.pre):av PG 51 args fun n r os=>r=(s.res n).1/\os=(s.res n).2:=by
 unfold oC at hs
 split at hs
 ·rename_i a_l
  obtain rfl:=sj hs
  obtain ⟨tV,hp⟩:=hp
  obtain ⟨JK,tR,tY,tX,tW⟩:=aC tV
  have this:=MZ (k_l:=tR) tX tW
  rw[<-tY] at this
  exact this
 ·cases hs
def T33:FL:=(51,oC)::aco
theorem uk:FOk PG (tab T33):=FOk.cons MC Ji
theorem tu (args:List DV):tab T33 51 args=(oC args).map .o:=ak _
theorem Lo (args:List DV):tab T33 50 args=(gP args).map .o:=ak _
def prA (p:Pa):Prop:=0<=p.m/\p.m<=7/\(p.U.length=0\/(p.m=0/\cR p.U=true))/\((p.m=4\/p.m=5)\/(p.pr=0/\p.P.length=0))/\p.P.length<=16/\(p.pr=0\/(60<=p.pr/\p.pr<=63))
def prB (p:Pa):Prop:=∀n∈p.P,0<=n/\n<=65535
def prC (p:Pa):Bool:=if p.m=2\/p.m=5 then kr p.I else decide (p.I.length=0)
instance (p:Pa):Decidable (prA p):=by unfold prA;infer_instance
instance (p:Pa):Decidable (prB p):=by unfold prB;infer_instance
def cF (p:Pa):Bool:=decide (prA p) && (decide (prB p) && prC p)
theorem Ab (h:¬prA p):false=cF p:=by unfold cF;rw[decide_eq_false h];rfl
theorem vz (h:¬prB p):false=cF p:=by unfold cF;rw[decide_eq_false h];simp
theorem wY (h:prA p)(h2:prB p):cF p=prC p:=by unfold cF;rw[decide_eq_true h,decide_eq_true h2];simp
theorem vU {i:Nat}(h:i<l.length):l.getD i 0∈l:=by
 rw[List.getD_eq_getElem?_getD,List.getElem?_eq_getElem h]
 exact List.getElem_mem _
theorem Il {q:Int->Prop}(h:∀j,j<l.length->q (l.getD j 0)):∀x∈l,q x:=fun x hx=>by
 obtain ⟨j,hj,rfl⟩:=List.getElem_of_mem hx
 have:=h j hj
 rwa [List.getD_eq_getElem?_getD,List.getElem?_eq_getElem hj] at this
theorem zg {m pr:Int}{P I U:List Int}(h:prB ⟨m,pr,P,I,U⟩){i:Nat}(hi:i<P.length):0<=P.getD i 0/\P.getD i 0<=65535:=h _ (vU hi)
theorem Sa {m pr:Int}{P I U:List Int}(h:∀j,j<P.length->0<=P.getD j 0/\P.getD j 0<=65535):prB ⟨m,pr,P,I,U⟩:=fun x hx=>Il (q:=fun x=>0<=x/\x<=65535) h x hx
theorem kV (l:List Int):kr l=true↔1<=l.length/\l.length<=2/\∀x∈l,cW x=true:=by
 unfold kr
 rw[Bool.and_eq_true,Bool.and_eq_true,decide_eq_true_eq,decide_eq_true_eq,List.all_eq_true,and_assoc]
def oX:RC:=(SR [BT 77 .lss 76 75] [1,74,75,76,77] (.seq (.cond (.t 77) .skip (.ext 0)) (.seq (.blk 1 (SR [OP 78 (.aT 1 (.t 74) (.t 76)),LD 79 78,MV 5 79] [1,5,74,75,76] (SR [MV 80 5,BI 81 .lss 80 0,MV 82 81,MG 83 5 82 false,OG 84 (.bin .gtr (.t 83) (.c (.int .i64 65535))) 82 false,OP 85 (.pick (.t 82) (.c (.bool true)) (.t 84))] [1,74,75,76,85] (.cond (.t 85) (SR [MB 2 false] [2] .ret) .skip)))) (.reg [BI 86 .add 76 1,MV 76 86] 0 [1,74,75,76]))))
def rV:RFn:=⟨1,102,(SR [OP 1 (.box 5 (.t 0)),MB 2 false] [1] (.seq (SR [FA 6 0 1,LD 7 6,BI 8 .lss 7 0,MV 9 8,FG 10 0 1 9 false,LG 11 10 9 false,OG 12 (.bin .gtr (.t 11) (.c (.int .i64 7))) 9 false,OP 13 (.pick (.t 9) (.c (.bool true)) (.t 12)),MV 14 13,FG 15 4 1 14 false,LG 16 15 14 false,OG 17 (.len (.t 16)) 14 false,OG 18 (.bin .gtr (.t 17) (.c (.int .i64 0))) 14 false,MG 19 18 14 false,FG 20 0 1 19 true,LG 21 20 19 true,OG 22 (.bin .neq (.t 21) (.c (.int .i64 0))) 19 true,MG 23 22 19 true,FG 24 4 1 23 false,LG 25 24 23 false,OG 26 (.call 50 [.t 25]) 23 false,OG 27 (.un .not (.t 26)) 23 false,OG 28 (.pick (.t 23) (.c (.bool true)) (.t 27)) 19 true,OG 29 (.pick (.t 19) (.t 28) (.c (.bool false))) 14 false,OP 30 (.pick (.t 14) (.c (.bool true)) (.t 29))] [1,30] (.cond (.t 30) (SR [MB 2 false] [2] .ret) .skip)) (SR [FA 31 0 1,LD 32 31,BI 33 .eql 32 4,MV 34 33,FG 35 0 1 34 false,LG 36 35 34 false,OG 37 (.bin .eql (.t 36) (.c (.int .i64 5))) 34 false,OP 38 (.pick (.t 34) (.c (.bool true)) (.t 37)),MV 3 38] [1,3] (.seq (SR [MV 39 3,OP 40 (.un .not (.t 39)),MV 41 40,FG 42 1 1 41 true,LG 43 42 41 true,OG 44 (.bin .neq (.t 43) (.c (.int .u8 0))) 41 true,MG 45 44 41 true,FG 46 2 1 45 false,LG 47 46 45 false,OG 48 (.len (.t 47)) 45 false,OG 49 (.bin .gtr (.t 48) (.c (.int .i64 0))) 45 false,OG 50 (.pick (.t 45) (.c (.bool true)) (.t 49)) 41 true,OP 51 (.pick (.t 41) (.t 50) (.c (.bool false))),MV 52 51,FG 53 2 1 52 false,LG 54 53 52 false,OG 55 (.len (.t 54)) 52 false,OG 56 (.bin .gtr (.t 55) (.c (.int .i64 16))) 52 false,OP 57 (.pick (.t 52) (.c (.bool true)) (.t 56)),MV 58 57,FG 59 1 1 58 false,LG 60 59 58 false,OG 61 (.bin .neq (.t 60) (.c (.int .u8 0))) 58 false,MG 62 61 58 false,FG 63 1 1 62 true,LG 64 63 62 true,OG 65 (.bin .lss (.t 64) (.c (.int .u8 60))) 62 true,MG 66 65 62 true,FG 67 1 1 66 false,LG 68 67 66 false,OG 69 (.bin .gtr (.t 68) (.c (.int .u8 63))) 66 false,OG 70 (.pick (.t 66) (.c (.bool true)) (.t 69)) 62 true,OG 71 (.pick (.t 62) (.t 70) (.c (.bool false))) 58 false,OP 72 (.pick (.t 58) (.c (.bool true)) (.t 71))] [1,72] (.cond (.t 72) (SR [MB 2 false] [2] .ret) .skip)) (.seq (SR [FA 73 2 1,LD 74 73,OP 75 (.len (.t 74)),OP 76 (.mov (.c (.int .i64 0)))] [1,74,75,76] (.blk 0 (.loop oX))) (.seq (SR [FA 87 0 1,LD 88 87,BI 89 .eql 88 2,MV 90 89,FG 91 0 1 90 false,LG 92 91 90 false,OG 93 (.bin .eql (.t 92) (.c (.int .i64 5))) 90 false,OP 94 (.pick (.t 90) (.c (.bool true)) (.t 93))] [1,94] (.cond (.t 94) (SR [FA 95 3 1,LD 96 95,OP 97 (.call 51 [.t 96]),MV 2 97] [2] .ret) .skip)) (SR [FA 98 3 1,LD 99 98,OP 100 (.len (.t 99)),BI 101 .eql 100 0,MV 2 101] [2] .ret))))))),[.t 2]⟩
theorem En:aK PG.P (aA PG.P 26 rV) 26=some rV:=by kernel_rfl
theorem QB (h1:inK .i64 p.P)(h2:inK .u8 p.I)(h3:inK .u8 p.U)(hl:p.P.length<=1000/\p.I.length<=1000/\p.U.length<=1000):av PG 26 [paD p] fun n r os=>r=.bool (cF p)/\os=[]:=by
 obtain ⟨m,pr,P,I,U⟩:=p
 simp only at h1 h2 h3 hl
 refine av.di (res:=fun n=>(.bool (cF ⟨m,pr,P,I,U⟩),[])) uk En (by simp[rV]) fun n=>?_
 unfold rV
 dsimp only[paD]
 simp -implicitDefEqProofs -dsimp only[tu,Lo,yz,gv,fI,aL,gw,iQ,iT,vcR,↓vcQ,if_true,if_false,implies_true,simprocAttr,ne_eq,exists_eq_left,exists_eq_left',Function.comp_apply]
 generalize hG:bk PG 102 oX _ _=G
 have hF:¬prA ⟨m,pr,P,I,U⟩->false=cF ⟨m,pr,P,I,U⟩:=Ab
 have hGt:prA ⟨m,pr,P,I,U⟩->G:=fun hA=>by
  rw[<-hG];clear hG
  refine bk.inv uk (S:=fun i:Nat=>⟨[(1,.ptr n 0 0),(74,.sl 1 (af .i64 P) .any),(75,.int .i64 P.length),(76,.int .i64 i)],List.replicate n none++ [some (.box [.int .i64 m,.int .u8 pr,.sl 1 (af .i64 P) .any,.sl 1 (af .u8 I) .any,.sl 1 (af .u8 U) .any])]⟩) (I:=fun i=>i<=P.length/\∀j,j<i->0<=P.getD j 0/\P.getD j 0<=65535) (μ:=fun i=>P.length-i) 0 ⟨by omega,by omega⟩ ?_ ?_
  ·simp -implicitDefEqProofs -dsimp only[gw,iQ,iT,vcR,↓vcQ,if_true,if_false,implies_true,simprocAttr,ne_eq,exists_eq_left,exists_eq_left',Function.comp_apply]
  ·intro i ⟨hi,hv⟩
   unfold oX
   simp -implicitDefEqProofs -dsimp only[tu,yz,fI,aL,gw,iQ,iT,vcR,↓vcQ,if_true,if_false,implies_true,simprocAttr,ne_eq,exists_eq_left,exists_eq_left',Function.comp_apply]
   refine ⟨fun h=>⟨⟨by omega,h⟩,by omega,fun h2=>vz fun hb=>?_,fun h2=>⟨fun h3=>vz fun hb=>?_,fun h3=>⟨i+1,by rw[aO] <;> omega,⟨by omega,fun j hj=>?_⟩,by omega⟩⟩⟩,fun h=>?_⟩
   ·have:=zg hb (i:=i) (by omega);omega
   ·have:=zg hb (i:=i) (by omega);omega
   ·by_cases hji:j=i
    ·subst hji;omega
    ·exact hv j (by omega)
   ·have hB:prB ⟨m,pr,P,I,U⟩:=Sa fun j hj=>hv j (by omega)
    rw[wY hA hB]
    refine ⟨fun e=>⟨h2, ?_⟩,fun e=>⟨fun e2=>⟨h2, ?_⟩,fun e2=>?_⟩⟩
    ·unfold prC;rw[if_pos (.inl e)]
    ·unfold prC;rw[if_pos (.inr e2)]
    ·unfold prC;rw[if_neg (by simp only;omega)];congr 1;simp
 clear hG
 have hpr:prA ⟨m,pr,P,I,U⟩↔(0<=m/\m<=7/\(U.length=0\/(m=0/\cR U=true))/\((m=4\/m=5)\/(pr=0/\P.length=0))/\P.length<=16/\(pr=0\/(60<=pr/\pr<=63))):=Iff.rfl
 generalize (false=cF ⟨m,pr,P,I,U⟩)=FF at *
 cases hu:cR U <;> simp only[iB,gm] <;> rw[hu] at hpr <;> simp only[Bool.false_eq_true,and_false,or_false,and_true] at hpr
 all_goals (repeat' (first | intro _ | (with_reducible apply And.intro)))
 all_goals first
  | assumption
  | exact hF (fun h=>by have:=hpr.1 h;omega)
  | exact hGt (hpr.2 (by omega))
end
end Go.Proofs.YtjmnbpilnneonaaGreatDoor
