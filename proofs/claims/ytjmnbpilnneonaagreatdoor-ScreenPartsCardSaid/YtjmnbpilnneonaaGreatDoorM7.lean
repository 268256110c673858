/- Texts P24, P25, P26, P27, P28, P29, P30, P31, P32, P33 in one. -/
import Derived.Test.YtjmnbpilnneonaaGreatDoorM5
import Derived.Test.YtjmnbpilnneonaaGreatDoorM6
set_option linter.unusedVariables false
set_option linter.unusedSimpArgs false
set_option maxRecDepth 10000
namespace Go.Proofs.YtjmnbpilnneonaaGreatDoor
open Go.RowKit
def qB (b:Int):Prop:=0≤b∧b≤255
def qC (b:Int):Prop:=32≤b∧b≤255
def aa6:=jW gG qC
def Y2:=jW iS qB
def Y1:=jW jm qB
def aa5:=jW (fun _ b=>iY b) qB
def S6:=jW iJ qB
def T24:FL:=(94,aa6)::(95,Y2)::(93,Y1)::(92,aa5)::(91,S6)::T21
theorem WJ:FOk PG (tab T24):=
 FOk.Fy (FOk.Fy (FOk.Fy (FOk.Fy (FOk.Fy tL (uV fun p b h1 h2=>RG h1 h2)) (uV fun p b h1 h2=>ZC h1 h2)) (uV fun p b h1 h2=>Xk h1 h2)) (uV fun p b h1 h2=>Xl h1 h2)) (uV fun p b h1 h2=>ZD h1 h2)
theorem N3 (args:List DV):tab T24 94 args=(jW gG qC args).map .h:=au _
theorem Ml (args:List DV):tab T24 95 args=(jW iS qB args).map .h:=au _
theorem Mk (args:List DV):tab T24 93 args=(jW jm qB args).map .h:=au _
theorem N2 (args:List DV):tab T24 92 args=(jW (fun _ b=>iY b) qB args).map .h:=au _
theorem DI (args:List DV):tab T24 91 args=(jW iJ qB args).map .h:=au _
theorem Mj (args:List DV):tab T24 90 args=(mW args).map .o:=au _
theorem Ic (args:List DV):tab T24 86 args=(jx args).map .o:=au _
theorem wW (x:Pa × List Ac):paR x=.tup [.agg [.int .i64 x.1.m,.int .u8 x.1.pr,.sl 1 (af .i64 x.1.P) .any,.sl 1 (af .u8 x.1.I) .any,.sl 1 (af .u8 x.1.U) .any],.sl 6 (cu x.2) .any]:=au _
noncomputable def AA:RFn:=⟨2,97,(SR [OP 2 (.box 5 (.t 0)),OP 4 (.alloc [.int .i64 0,.int .u8 0,.sl 0 [] .nil,.sl 0 [] .nil,.sl 0 [] .nil]),OP 5 (.mov (.c (.sl 0 [] .nil)))] [1,2,4] (.seq (.blk 0 (SR [MV 7 1,OP 8 (.bin .eql (.t 7) (.c (.int .u8 24))),MV 9 8,MG 10 1 9 false,OG 11 (.bin .eql (.t 10) (.c (.int .u8 26))) 9 false,OP 12 (.pick (.t 9) (.c (.bool true)) (.t 11)),MV 6 12] [1,2,4,6] (.cond (.t 6) (SR [OP 13 (.call 90 [.c (.int .i64 0)]),SA 5 4 13,OP 5 (.mov (.c (.sl 0 [] .nil)))] [4,5] .ret) (SR [MV 15 1,OP 16 (.bin .eql (.t 15) (.c (.int .u8 27))),MV 14 16] [1,2,4,14] (.cond (.t 14) (SR [OP 17 (.call 90 [.c (.int .i64 1)]),SA 5 4 17,OP 5 (.mov (.c (.sl 0 [] .nil)))] [4,5] .ret) (SR [FA 19 0 2,LD 20 19,BI 21 .eql 20 7,MV 22 21,MG 23 1 22 true,OG 24 (.bin .eql (.t 23) (.c (.int .u8 7))) 22 true,OP 25 (.pick (.t 22) (.t 24) (.c (.bool false))),MV 18 25] [1,2,4,18] (.cond (.t 18) (SR [OP 26 (.call 90 [.c (.int .i64 0)]),SA 5 4 26,OP 5 (.mov (.c (.sl 0 [] .nil)))] [4,5] .ret) (SR [FA 28 0 2,LD 29 28,BI 30 .eql 29 7,MV 31 30,MG 32 1 31 false,OG 33 (.bin .eql (.t 32) (.c (.int .u8 127))) 31 false,OP 34 (.pick (.t 31) (.c (.bool true)) (.t 33)),MV 27 34] [1,2,4,27] (.cond (.t 27) (SR [LT 35 5 2,SA 5 4 35,OP 5 (.mov (.c (.sl 0 [] .nil)))] [4,5] .ret) (SR [MV 37 1,OP 38 (.bin .lss (.t 37) (.c (.int .u8 32))),MV 36 38] [1,2,4,36] (.cond (.t 36) (SR [LT 39 5 2,MV 40 1,OP 41 (.build [.int .i64 0,.int .i32 0,.int .u8 0,.int .u8 0,.sl 0 [] .nil,.sl 0 [] .nil] [(0,(1,(.c (.int .i64 1)))),(2,(1,(.t 40)))]),OP 42 (.bJ 6 [.int .i64 0,.int .i32 0,.int .u8 0,.int .u8 0,.sl 0 [] .nil,.sl 0 [] .nil] 1 [(0,(.t 41))]),SA 5 4 39,MV 5 42] [4,5] .ret) (SR [FA 44 0 2,LD 45 44,BI 46 .eql 45 0,MV 43 46] [1,2,4,43] (.cond (.t 43) (SR [LT 47 5 2,MV 48 1,OP 49 (.call 91 [.t 47,.t 48]),OP 50 (.ext (.t 49) 0),OP 51 (.ext (.t 49) 1),SA 5 4 50,MV 5 51] [4,5] .ret) (SR [MV 53 1,OP 54 (.bin .geq (.t 53) (.c (.int .u8 128))),MV 52 54] [1,2,4,52] (.cond (.t 52) (SR [OP 55 (.call 90 [.c (.int .i64 0)]),SA 5 4 55,OP 5 (.mov (.c (.sl 0 [] .nil)))] [4,5] .ret) .skip))))))))))))))) (.seq (SR [FA 56 0 2,LD 57 56] [1,2,4,57] (.blk 1 (SR [BI 59 .eql 57 1,MV 58 59] [1,2,4,57,58] (.cond (.t 58) (SR [LT 60 5 2,MV 61 1,OP 62 (.call 92 [.t 60,.t 61]),OP 63 (.ext (.t 62) 0),OP 64 (.ext (.t 62) 1),SA 5 4 63,MV 5 64] [4,5] .ret) (SR [BI 66 .eql 57 2,MV 65 66] [1,2,4,57,65] (.cond (.t 65) (SR [LT 67 5 2,MV 68 1,OP 69 (.call 93 [.t 67,.t 68]),OP 70 (.ext (.t 69) 0),OP 71 (.ext (.t 69) 1),SA 5 4 70,MV 5 71] [4,5] .ret) (SR [BI 73 .eql 57 3,MV 72 73] [1,2,4,57,72] (.cond (.t 72) (.seq (SR [MV 74 1,OP 75 (.call 86 [.t 74]),OP 76 (.un .not (.t 75))] [2,4,76] (.cond (.t 76) (.reg [OP 77 (.call 90 [.c (.int .i64 0)]),SA 5 2 77] 0 [2,4]) .skip)) (SR [LT 78 5 2,SA 5 4 78,OP 5 (.mov (.c (.sl 0 [] .nil)))] [4,5] .ret)) (SR [BI 80 .eql 57 4,MV 79 80] [1,2,4,57,79] (.cond (.t 79) (SR [LT 81 5 2,MV 82 1,OP 83 (.call 94 [.t 81,.t 82]),OP 84 (.ext (.t 83) 0),OP 85 (.ext (.t 83) 1),SA 5 4 84,MV 5 85] [4,5] .ret) (SR [BI 87 .eql 57 5,MV 86 87] [1,2,4,86] (.cond (.t 86) (SR [LT 88 5 2,MV 89 1,OP 90 (.call 95 [.t 88,.t 89]),OP 91 (.ext (.t 90) 0),OP 92 (.ext (.t 90) 1),SA 5 4 91,MV 5 92] [4,5] .ret) .skip)))))))))))) (.seq (SR [MV 93 1,OP 94 (.bin .geq (.t 93) (.c (.int .u8 64)))] [2,4,94] (.cond (.t 94) (.reg [OP 95 (.call 90 [.c (.int .i64 0)]),SA 5 2 95] 0 [2,4]) .skip)) (SR [LT 96 5 2,SA 5 4 96,OP 5 (.mov (.c (.sl 0 [] .nil)))] [4,5] .ret))))),[.c 4 true 5,.t 5]⟩
theorem Jq:aK PG.P [⟨0,0,[1,2,4],[]⟩,⟨1,0,[1,2,4,6],[]⟩,⟨2,0,[4,5],[]⟩,⟨3,0,[1,2,4,14],[]⟩,⟨4,0,[4,5],[]⟩,⟨5,0,[1,2,4,18],[]⟩,⟨6,0,[4,5],[]⟩,⟨7,0,[1,2,4,27],[]⟩,⟨8,0,[4,5],[]⟩,⟨9,0,[1,2,4,36],[]⟩,⟨10,0,[4,5],[]⟩,⟨11,0,[1,2,4,43],[]⟩,⟨12,0,[4,5],[]⟩,⟨13,0,[1,2,4,52],[]⟩,⟨14,0,[4,5],[]⟩,⟨15,0,[1,2,4,57],[]⟩,⟨16,0,[1,2,4,57,58],[]⟩,⟨17,0,[4,5],[]⟩,⟨18,0,[1,2,4,57,65],[]⟩,⟨19,0,[4,5],[]⟩,⟨20,0,[1,2,4,57,72],[]⟩,⟨21,0,[2,4,76],[]⟩,⟨22,0,[2,4],[]⟩,⟨23,0,[4,5],[]⟩,⟨24,0,[1,2,4,57,79],[]⟩,⟨25,0,[4,5],[]⟩,⟨26,0,[1,2,4,86],[]⟩,⟨27,0,[4,5],[]⟩,⟨28,0,[2,4,94],[]⟩,⟨29,0,[2,4],[]⟩,⟨30,0,[4,5],[]⟩] 61=some AA:=by kernel_rfl
def eG (p:Pa)(b:Int):Pa × List Ac:=
 if b=24∨b=26 then (pa0 0,[])
 else if b=27 then (pa0 1,[])
 else if p.m=7∧b=7 then (pa0 0,[])
 else if p.m=7∨b=127 then (p,[])
 else if b<32 then (p,[⟨1,0,b,0,none,none⟩])
 else if p.m=0 then iJ p b
 else if 128≤b then (pa0 0,[])
 else if p.m=1 then iY b
 else if p.m=2 then jm p b
 else if p.m=3 then (if de b=true then p else pa0 0,[])
 else if p.m=4 then gG p b
 else if p.m=5 then iS p b
 else (if 64≤b then pa0 0 else p,[])
set_option maxHeartbeats 4000000 in
theorem Xh {p:Pa}{b:Int}(hp:dg p)(hb:0≤b∧b≤255):eW PG 61 (paH p b) (js p) (fun n=>paF (eG p b)):=by
 obtain ⟨m,pr,P,I,U⟩:=p
 have hp0:=hp
 obtain ⟨h1,h2,h3,h4,h5,h6,h7⟩:=hp
 simp only at h1 h2 h3 h4 h5 h6 h7
 refine eW.iI WJ Jq (fun n=>by simp [AA,paH]) fun n=>?_
 unfold AA
 dsimp only [paH,js]
 simp -implicitDefEqProofs -dsimp only [N3,Ml,Mk,N2,DI,Mj,Ic,WQ,jU,ic,wW,mj,eu,List.length_set,List.take_length,tI,gN,jn,jA,vcR,↓an,↓ak,if_true,if_false,implies_true,simprocAttr,ne_eq,exists_eq_left,exists_eq_left',Function.comp_apply]
 clear h7
 simp only [oG]
 (repeat' (first | with_reducible exact Or.inl rfl | intro _ | (apply And.intro)))
 all_goals first
  | exact .inl rfl | exact .inr rfl | exact .inr ⟨rfl,trivial⟩
  | trivial
  | assumption
  | omega
  | exact rfl
  | exact hb
  | (show 32≤b∧b≤255;omega)
  | (dsimp only [eG];simp (disch:=omega) only [if_pos,if_neg];done)
  | (dsimp only [eG];(repeat (first | rw [if_pos (by omega)] | rw [if_neg (by omega)]));first | exact fP _ | rfl | (simp [paF,paR,paD,pa0,dj,cF,dm,dw,cV,eV,eU,bQ,bk];done))
  | (rename_i hh;exact (hp0.2.2.2.2.2.2 _ hh).1)
  | (rename_i hh;exact (hp0.2.2.2.2.2.2 _ hh).2)
  | (rename_i hh;exact (h1.2 _ hh).1)
  | (rename_i hh;exact (h1.2 _ hh).2)
  | (rename_i hh;exact (h2.2 _ hh).1)
  | (rename_i hh;exact (h2.2 _ hh).2)
  | (rename_i hh;exact (h3.2 _ hh).1)
  | (rename_i hh;exact (h3.2 _ hh).2)
  | (show List.length _≤_;dsimp only;omega)
  | (dsimp only [eG];(repeat (first | rw [if_pos (by omega)] | rw [if_neg (by omega)]));rw [if_neg (by simp [*])];simp [pa0,cV,bk];done)
def lU:List DV→Option aS
 | [.agg [.int .i64 m,.int .u8 pr,p,i,u]]=>some ⟨aD .i64 p∧aD .u8 i∧aD .u8 u∧((aF p).length≤1000000∧(aF i).length≤1000000∧(aF u).length≤1000000),fun n=>(.agg [.int .i64 m,.int .u8 pr,.own n 0 (aF p).length,.own (n+1) 0 (aF i).length,.sl 1 (af .u8 (aF u)) .any],[some (.arr 1 (af .i64 (aF p))),some (.arr 1 (af .u8 (aF i)))])⟩
 | _=>none
theorem qv (m pr:Int)(p i u:DV):lU [.agg [.int .i64 m,.int .u8 pr,p,i,u]]=some ⟨aD .i64 p∧aD .u8 i∧aD .u8 u∧((aF p).length≤1000000∧(aF i).length≤1000000∧(aF u).length≤1000000),fun n=>(.agg [.int .i64 m,.int .u8 pr,.own n 0 (aF p).length,.own (n+1) 0 (aF i).length,.sl 1 (af .u8 (aF u)) .any],[some (.arr 1 (af .i64 (aF p))),some (.arr 1 (af .u8 (aF i)))])⟩:=au _
theorem KM (args:List DV)(s:aS)(hs:lU args=some s)(hp:s.pre):az PG 59 args fun n r os=>r=(s.res n).1∧os=(s.res n).2:=by
 unfold lU at hs
 split at hs
 ·obtain rfl:=sj hs
  obtain ⟨h1,h2,h3,h4⟩:=hp
  exact RH h1 h2 h3 h4
 ·cases hs
theorem bN.wk {E:Prg}{f:Nat}{a b:List DV}{T:aj}{R:DV→aj→Prop}(h:bN E f b T R)(hw:wkL wkT a b):bN E f a T R:=by
 obtain ⟨hl,hg⟩:=zy hw
 exact fun G w vs h1 h2 h3 h4=>h G w vs h1 h2 (h3.trans hl) fun i d hd=>let ⟨c,hc,hx⟩:=hg i d hd;qD hx (h4 i c hc)
theorem eW.wk {E:Prg}{f:Nat}{a b:Nat→List DV}{obs:List Ob}{res:Nat→DV × aj}(h:eW E f b obs res)(hw:∀n,wkL wkT (a n) (b n)):eW E f a obs res:=fun n=>(h n).wk (hw n)
def vQ (g:Pa→Int→Pa × List Ac)(q:Int→Prop):List DV→Option mU
 | [.agg [.int .i64 m,.int .u8 pr,.own o1 f1 n1,.own o2 f2 n2,u],.int .u8 b]=>some ⟨fun T=> ¬o1=o2∧f1=0∧f2=0∧oR .i64 n1 T[o1]?∧oR .u8 n2 T[o2]?∧aD .u8 u∧dg ⟨m,pr,cG T[o1]?,cG T[o2]?,aF u⟩∧q b,
   fun T=>(paR (g ⟨m,pr,cG T[o1]?,cG T[o2]?,aF u⟩ b),oQ [o1,o2] T++ [none,none])⟩
 | _=>none
theorem Tb (g:Pa→Int→Pa × List Ac)(q:Int→Prop)(m pr b:Int)(o1 f1 n1 o2 f2 n2:Nat)(u:DV):vQ g q [.agg [.int .i64 m,.int .u8 pr,.own o1 f1 n1,.own o2 f2 n2,u],.int .u8 b]=
  some ⟨fun T=> ¬o1=o2∧f1=0∧f2=0∧oR .i64 n1 T[o1]?∧oR .u8 n2 T[o2]?∧aD .u8 u∧dg ⟨m,pr,cG T[o1]?,cG T[o2]?,aF u⟩∧q b,
   fun T=>(paR (g ⟨m,pr,cG T[o1]?,cG T[o2]?,aF u⟩ b),oQ [o1,o2] T++ [none,none])⟩:=au _
theorem VG {f:Nat}{g:Pa→Int→Pa × List Ac}{q:Int→Prop}(h:∀p b,dg p→q b→eW PG f (paH p b) (js p) (fun n=>paF (g p b)))(args:List DV)(s:mU)(hs:vQ g q args=some s):HOk PG f args s:=by
 unfold vQ at hs
 split at hs
 ·rename_i m pr o1 f1 n1 o2 f2 n2 u b
  obtain rfl:=sj hs
  intro T K ⟨p1,p2,p3,p4,p5,p6,p7,p8⟩ hK
  subst p2 p3
  obtain ⟨e1,l1,k1⟩:=qT p4
  obtain ⟨e2,l2,k2⟩:=qT p5
  obtain ⟨sz,k,e3,k3,k4⟩:=aL p6
  have hc:eW PG f (fun n=> [.agg [.int .i64 m,.int .u8 pr,.own n 0 (cG T[o1]?).length,.own (n+1) 0 (cG T[o2]?).length,.sl sz (af .u8 (aF u)) k],.int .u8 b]) (js ⟨m,pr,cG T[o1]?,cG T[o2]?,aF u⟩) (fun n=>paF (g ⟨m,pr,cG T[o1]?,cG T[o2]?,aF u⟩ b)):=by
   refine (h _ b p7 p8).wk fun n=>?_
   simp only [paH,wkL,wkT,wkA,wk0]
   refine ⟨⟨trivial,trivial,trivial,trivial,⟨trivial,.inl trivial, ?_⟩,trivial⟩,trivial,trivial⟩
   rcases k3 with rfl | k3
   ·exact .inl rfl
   ·exact .inr (by simp [k3,af])
  refine aq.hand [o1,o2] _ (by simp [p1]) rfl (fun i o ob ho hob=>?_) (fun d hd o ho=>?_) ?_ hc (by simpa [paF] using hK)
  ·rcases i with _ | _ | i
   ·simp [js] at ho hob;subst ho hob;exact e1
   ·simp [js] at ho hob;subst ho hob;exact e2
   ·simp at ho
  ·simp only [List.mem_cons,List.not_mem_nil,or_false] at hd
   rcases hd with rfl | rfl
   ·rw [e3] at ho
    simp [dV,oE,jC] at ho
    simp;exact ho
   ·simp [dV,oE,jC] at ho
  ·simp only [List.map_cons,List.map_nil,ld,p9,nM,pos,l1,l2]
   rw [e3]
   simp [ld,p9,nM,pos,p1,aM]
 ·cases hs
theorem Qf {α:Sort _}(n:Nat)(a b:α):(if 1+n≤n+1 then a else b)=a:=if_pos (by omega)
theorem DU {α:Type}(l:List α)(a:α):List.take (1+l.length) (a::l)=a::l:=List.take_of_length_le (by simp;omega)
def Y0:=vQ eG qB
def T25:FL:=(61,Y0)::(59,lU)::T24
theorem WI:FOk PG (tab T25):=
 FOk.Fy (FOk.cons WJ KM) (VG fun p b h1 h2=>Xh h1 h2)
theorem Mi (args:List DV):tab T25 61 args=(vQ eG qB args).map .h:=au _
theorem DH (args:List DV):tab T25 59 args=(lU args).map .o:=au _
theorem Ib (args:List DV):tab T25 60 args=(m8 args).map .o:=au _
def zT (p:Pa)(b:Int):Bool:=decide (p.m=0) && decide (0<p.U.length) && (decide (1<(cz p.U b).2.length) || (decide ((cz p.U b).2.length=1) && decide (0<(cz p.U b).1.length)))
def cZ (p:Pa)(b:Int):Pa × List Ac:=
 if zT p b=true then ((eG { p with U:=[]} b).1,⟨0,65533,0,0,none,none⟩::(eG { p with U:=[]} b).2)
 else eG p b
theorem PX {c:Prop} [Decidable c] {a b n:Nat}(h1:a≤n)(h2:b≤n):(if c then a else b)≤n:=by split <;> assumption
theorem qG (p:Pa)(b:Int):(eG p b).2.length≤2:=by
 have h1:=nc p.U b
 unfold eG iJ iY jm gG iS jF
 simp only [apply_ite Prod.snd,apply_ite List.length,List.length_map,List.length_nil,List.length_cons]
 repeat' (first | apply PX | exact h1 | omega)
noncomputable def AB:RFn:=⟨2,54,(SR [OP 2 (.box 5 (.t 0)),OP 4 (.alloc [.int .i64 0,.int .u8 0,.sl 0 [] .nil,.sl 0 [] .nil,.sl 0 [] .nil]),OP 5 (.mov (.c (.sl 0 [] .nil)))] [1,2,4] (SR [LT 10 5 2,OP 11 (.call 59 [.t 10]),SA 5 2 11] [1,2,4] (SR [OP 6 (.mov (.c (.sl 0 [] .nil)))] [1,2,4,6] (.seq (SR [FA 12 0 2,LD 13 12,BI 14 .eql 13 0,MV 15 14,FG 16 4 2 15 true,LG 17 16 15 true,OG 18 (.len (.t 17)) 15 true,OG 19 (.bin .gtr (.t 18) (.c (.int .i64 0))) 15 true,OP 20 (.pick (.t 15) (.t 19) (.c (.bool false)))] [1,2,4,6,20] (.cond (.t 20) (SR [FA 22 4 2,LD 23 22,MV 24 1,OP 25 (.call 60 [.t 23,.t 24]),MV 21 25,OP 26 (.ext (.t 21) 0),OP 27 (.ext (.t 21) 1),MV 7 26,MV 8 27] [1,2,4,6,7,8] (SR [MV 28 8,OP 29 (.len (.t 28)),BI 30 .gtr 29 1,MV 31 30,MG 32 8 31 false,OG 33 (.len (.t 32)) 31 false,OG 34 (.bin .eql (.t 33) (.c (.int .i64 1))) 31 false,MG 35 34 31 false,MG 36 7 35 true,OG 37 (.len (.t 36)) 35 true,OG 38 (.bin .gtr (.t 37) (.c (.int .i64 0))) 35 true,OG 39 (.pick (.t 35) (.t 38) (.c (.bool false))) 31 false,OP 40 (.pick (.t 31) (.c (.bool true)) (.t 39))] [1,2,4,6,40] (.cond (.t 40) (.reg [OP 41 (.build [.int .i64 0,.int .i32 0,.int .u8 0,.int .u8 0,.sl 0 [] .nil,.sl 0 [] .nil] [(0,(1,(.c (.int .i64 0)))),(1,(1,(.c (.int .i32 65533))))]),OP 42 (.bJ 6 [.int .i64 0,.int .i32 0,.int .u8 0,.int .u8 0,.sl 0 [] .nil,.sl 0 [] .nil] 1 [(0,(.t 41))]),MV 6 42,FA 43 4 2,NP (.store 1 (.t 43) (.c (.sl 0 [] .nil)))] 0 [1,2,4,6]) .skip))) .skip)) (SR [LT 45 5 2,MV 46 1,OP 47 (.call 61 [.t 45,.t 46]),MV 44 47,OP 48 (.ext (.t 44) 0),OP 49 (.ext (.t 44) 1),SA 5 2 48,MV 9 49] [2,4,6,9] (.seq (.cK (.take (MV 51 6) [] (.take (LT 50 5 2) [.t 51] (.take (MV 52 9) [] (.op (OP 53 (.append 6 64 (.t 51) (.t 52))) (.op (SA 5 4 50) (.take (MV 5 53) [] .done)))))) 0 [4,5]) .ret)))))),[.c 4 true 5,.t 5]⟩
theorem Jr:aK PG.P [⟨0,0,[1,2,4],[]⟩,⟨1,0,[1,2,4],[]⟩,⟨2,0,[1,2,4,6],[]⟩,⟨3,0,[1,2,4,6,20],[]⟩,⟨4,0,[1,2,4,6,7,8],[]⟩,⟨5,0,[1,2,4,6,40],[]⟩,⟨6,0,[1,2,4,6],[]⟩,⟨7,0,[2,4,6,9],[]⟩,⟨8,0,[4,5],[]⟩] 33=some AB:=by kernel_rfl
theorem Xi {m pr b:Int}{p i u:DV}(hp:aD .i64 p)(hi:aD .u8 i)(hu:aD .u8 u)(ho:dg ⟨m,pr,aF p,aF i,aF u⟩)(hb:0≤b∧b≤255) :
  az PG 33 [.agg [.int .i64 m,.int .u8 pr,p,i,u],.int .u8 b] fun n r os=>r=(paF (cZ ⟨m,pr,aF p,aF i,aF u⟩ b)).1∧os=[]:=by
 obtain ⟨s1,k1,e1,h1,g1⟩:=aL hp
 obtain ⟨s2,k2,e2,h2,g2⟩:=aL hi
 obtain ⟨s3,k3,e3,h3,g3⟩:=aL hu
 rw [e1,e2,e3]
 simp only [aM]
 generalize aF p=P at *
 generalize aF i=I at *
 generalize aF u=U at *
 have ⟨j1,j2,j3,j4,j5,j6,j7⟩:=ho
 simp only at j1 j2 j3 j4 j5 j6 j7
 refine az.iI (res:=fun n=>paF (cZ ⟨m,pr,P,I,U⟩ b)) WI Jr (by simp [AB]) fun n=>?_
 unfold AB
 dsimp only
 have e1:aD .i64 (.sl s1 (af .i64 P) k1):=aQ h1 g1
 have e2:aD .u8 (.sl s2 (af .u8 I) k2):=aQ h2 g2
 have e3:aD .u8 (.sl s3 (af .u8 U) k3):=aQ h3 g3
 clear j7
 simp -implicitDefEqProofs -dsimp only [Mi,DH,Ib,Tb,Qf,DU,qv,ie,e1,e2,e3,wW,mj,aM,eu,List.length_set,List.take_length,tI,gN,jn,jA,vcR,↓an,↓ak,if_true,if_false,implies_true,simprocAttr,ne_eq,exists_eq_left,exists_eq_left',Function.comp_apply]
 have q1:=qG ⟨m,pr,P,I,U⟩ b
 have q2:=qG ⟨m,pr,P,I,[]⟩ b
 have o1:dg ⟨m,pr,P,I,U⟩:=ho
 have o2:dg ⟨m,pr,P,I,[]⟩:=⟨j1,j2,fF _,j4,j5,by simp,ho.2.2.2.2.2.2⟩
 have c1:zT ⟨m,pr,P,I,U⟩ b=true→cZ ⟨m,pr,P,I,U⟩ b=((eG ⟨m,pr,P,I,[]⟩ b).1,⟨0,65533,0,0,none,none⟩::(eG ⟨m,pr,P,I,[]⟩ b).2):=fun h=>by simp [cZ,h]
 have c2:zT ⟨m,pr,P,I,U⟩ b=false→cZ ⟨m,pr,P,I,U⟩ b=eG ⟨m,pr,P,I,U⟩ b:=fun h=>by simp [cZ,h]
 have k1:∀x:Pa × List Ac,x=cZ ⟨m,pr,P,I,U⟩ b→wkT (paR x) (paF (cZ ⟨m,pr,P,I,U⟩ b)).1∧[]=(paF (cZ ⟨m,pr,P,I,U⟩ b)).2:=fun x h=>by
  subst h;exact ⟨fP _,rfl⟩
 have hd:zT ⟨m,pr,P,I,U⟩ b=(decide (m=0) && decide (0<U.length) && (decide (1<(cz U b).2.length) || (decide ((cz U b).2.length=1) && decide (0<(cz U b).1.length)))):=rfl
 generalize hA:eG ⟨m,pr,P,I,U⟩ b=A at *
 generalize hB:eG ⟨m,pr,P,I,[]⟩ b=B at *
 generalize cz U b=us at *
 have fA:∀x:Prop,x→((inK .i64 P∧inK .u8 I∧inK .u8 U∧dg ⟨m,pr,P,I,U⟩∧qB b)∧(A.2.length*64≤140737488355328∧A.2.length≤4611686018427387904)∧x):=fun x hx=>⟨⟨j1,j2,j3,o1,hb⟩,⟨by omega,by omega⟩,hx⟩
 have fB:∀x:Prop,x→((inK .i64 P∧inK .u8 I∧dg ⟨m,pr,P,I,[]⟩∧qB b)∧((1+B.2.length)*64≤140737488355328∧1+B.2.length≤4611686018427387904)∧x):=fun x hx=>⟨⟨j1,j2,o2,hb⟩,⟨by omega,by omega⟩,hx⟩
 have hA1:zT ⟨m,pr,P,I,U⟩ b=false→_:=fun h=>fA _ (k1 A (c2 h).symm)
 have hB1:zT ⟨m,pr,P,I,U⟩ b=true→_:=fun h=>fB _ (k1 _ (c1 h).symm)
 refine ⟨⟨by omega,by omega,by omega⟩,fun hm=>⟨fun hu0=>⟨⟨j3,by omega,hb⟩,fun a1=>hB1 ?_,fun a1=>⟨fun a2=>⟨fun a3=>hB1 ?_,fun a3=>hA1 ?_⟩,fun a2=>hA1 ?_⟩⟩,fun hu0=>hA1 ?_⟩,fun hm=>hA1 ?_⟩
 all_goals (rw [hd];simp only [Bool.and_eq_true,Bool.or_eq_true,decide_eq_true_eq,Bool.and_eq_false_iff,Bool.or_eq_false_iff,decide_eq_false_iff_not];omega)
theorem mb (m:Int):dg (pa0 m):=⟨fF _,fF _,fF _,by simp [pa0],by simp [pa0],by simp [pa0],by simp [pa0]⟩
theorem oC {c:Prop} [Decidable c] {P:Pa × List Ac→Prop}{a b:Pa × List Ac}(h1:c→P a)(h2:¬c→P b):P (if c then a else b):=by split;exact h1 ‹_›;exact h2 ‹_›
theorem Qb {k:IntKind}{l:List Int}{n:Int}(h:inK k l)(hn:k.min≤n∧n≤k.max)(hl:l.length≤1000):inK k (l++ [n]):=by
 refine ⟨by simp;omega,fun x hx=>?_⟩
 simp only [List.mem_append,List.mem_singleton] at hx
 rcases hx with hx | rfl
 ·exact h.2 _ hx
 ·exact hn
theorem Xu:IntKind.u8.min=0∧IntKind.u8.max=255:=by decide
theorem Zh:IntKind.i64.min= -9223372036854775808∧IntKind.i64.max=9223372036854775807:=by decide
theorem abH {l:List Int}(hl:l.length≤1000)(h:∀n∈l,0≤n∧n≤65535):inK .i64 l:=⟨by omega,fun n hn=>by have:=h n hn;have:=Zh;omega⟩
theorem TE {p:Pa}{b:Int}(hp:dg p)(hb:32≤b∧b≤255):dg (gG p b).1:=by
 obtain ⟨h1,h2,h3,h4,h5,h6,h7⟩:=hp
 have:=Xu
 refine oC (P:=fun x=>dg x.1) (fun hv=>⟨h1,⟨by simp,fun x hx=>by simp at hx;subst hx;omega⟩,h3,h4,by simp,h6,h7⟩) fun hv=>?_
 have hv2:48≤b:=by simp [de] at hv;omega
 refine oC (P:=fun x=>dg x.1) (fun _=>mb 0) fun h64=>?_
 refine oC (P:=fun x=>dg x.1) (fun _=>mb 6) fun h58=>?_
 refine oC (P:=fun x=>dg x.1) (fun _=>⟨h1,h2,h3,h4,h5,h6,h7⟩) fun h59=>?_
 have hq:∀{Q:List Int},Q.length≤1000→(∀n∈Q,0≤n∧n≤65535)→dg ⟨p.m,p.pr,Q,p.I,p.U⟩:=fun a c=>⟨abH a c,h2,h3,a,h5,h6,c⟩
 refine oC (P:=fun x=>dg x.1) (fun hl0=>oC (P:=fun x=>dg x.1) (fun _=>hq (by simp) (by simp)) fun _=>hq (by simp) (by simp;omega)) fun hl0=>?_
 refine oC (P:=fun x=>dg x.1) (fun hl0=>oC (P:=fun x=>dg x.1) (fun _=>mb 6) fun _=>hq (by simp;omega) fun n hn=>?_) fun _=>hq (by simp [mI];omega) fun n hn=>?_
 ·simp at hn
  rcases hn with hn | rfl
  ·exact h7 n hn
  ·omega
 ·rcases List.mem_or_eq_of_mem_set hn with h | rfl
  ·exact h7 n h
  ·have h0:0≤p.P.getD (p.P.length-1) 0:=by
    rw [List.getD_eq_getElem?_getD]
    rcases h:p.P[p.P.length-1]? with _ | v
    ·simp
    ·exact (h7 v (List.mem_of_getElem? h)).1
   omega
theorem DN {p:Pa}{b:Int}(hp:dg p)(hb:0≤b∧b≤255):dg (eG p b).1:=by
 have h0:=mb
 obtain ⟨h1,h2,h3,h4,h5,h6,h7⟩:=id hp
 have hu:=Xu
 have e1:(cz p.U b).1.length≤1000:=by have:=TI p.U b;omega
 have e2:=TJ h3 hb (by omega)
 have hg:∀{c:Prop} [Decidable c] {x y:Pa × List Ac},(c→dg x.1)→(¬c→dg y.1)→dg (if c then x else y).1:=fun a c=>oC (P:=fun x=>dg x.1) a c
 refine hg (fun _=>h0 _) fun _=>hg (fun _=>h0 _) fun _=>hg (fun _=>h0 _) fun _=>hg (fun _=>hp) fun _=>hg (fun _=>hp) fun hb2=>hg (fun _=>⟨h1,h2,e2,h4,h5,e1,h7⟩) fun _=>hg (fun _=>h0 _) fun _=>hg (fun _=>?_) fun _=>hg (fun _=>?_) fun _=>hg (fun _=>?_) fun _=>hg (fun _=>TE hp (by omega)) fun _=>hg (fun _=>?_) fun _=>?_
 ·exact hg (fun _=>⟨fF _,⟨by simp,fun x hx=>by simp at hx;subst hx;omega⟩,fF _,by simp,by simp,by simp,by simp⟩) fun _=>hg (fun _=>h0 _) fun _=>hg (fun _=>h0 _) fun _=>h0 _
 ·exact hg (fun _=>h0 _) fun _=>hg (fun _=>h0 _) fun hl=>⟨h1,Qb h2 (by omega) h5,h3,h4,by simp;omega,h6,h7⟩
 ·show dg (if de b=true then p else pa0 0)
  split
  ·exact hp
  ·exact h0 _
 ·exact hg (fun _=>h0 _) fun _=>hg (fun _=>h0 _) fun hl=>⟨h1,Qb h2 (by omega) h5,h3,h4,by simp;omega,h6,h7⟩
 ·show dg (if 64≤b then pa0 0 else p)
  split
  ·exact h0 _
  ·exact hp
theorem qH {p:Pa}{b:Int}(hp:dg p)(hb:0≤b∧b≤255):dg (cZ p b).1:=by
 unfold cZ
 split
 ·obtain ⟨h1,h2,h3,h4,h5,h6,h7⟩:=hp
  exact DN ⟨h1,h2,fF _,h4,h5,by simp,h7⟩ hb
 ·exact DN hp hb
theorem DP (p:Pa)(b:Int):(cZ p b).2.length≤3:=by
 unfold cZ
 have h1:=qG p b
 have h2:=qG { p with U:=[]} b
 split
 ·simp;omega
 ·omega
def qY:List DV→Option aS
 | [.agg [.int .i64 m,.int .u8 pr,p,i,u],.int .u8 b]=>some ⟨aD .i64 p∧aD .u8 i∧aD .u8 u∧dg ⟨m,pr,aF p,aF i,aF u⟩∧(0≤b∧b≤255),fun n=>(paR (cZ ⟨m,pr,aF p,aF i,aF u⟩ b),[])⟩
 | _=>none
theorem xG (m pr b:Int)(p i u:DV):qY [.agg [.int .i64 m,.int .u8 pr,p,i,u],.int .u8 b]=some ⟨aD .i64 p∧aD .u8 i∧aD .u8 u∧dg ⟨m,pr,aF p,aF i,aF u⟩∧(0≤b∧b≤255),fun n=>(paR (cZ ⟨m,pr,aF p,aF i,aF u⟩ b),[])⟩:=au _
theorem SI (args:List DV)(s:aS)(hs:qY args=some s)(hp:s.pre):az PG 33 args fun n r os=>r=(s.res n).1∧os=(s.res n).2:=by
 unfold qY at hs
 split at hs
 ·obtain rfl:=sj hs
  obtain ⟨h1,h2,h3,h4,h5⟩:=hp
  exact Xi h1 h2 h3 h4 h5
 ·cases hs
def T27:FL:=(33,qY)::T25
theorem mB:FOk PG (tab T27):=FOk.cons WI SI
theorem Mh (args:List DV):tab T27 33 args=(qY args).map .o:=au _
theorem az.wk {E:Prg}{f:Nat}{a b:List DV}{R:Nat→DV→aj→Prop}(h:az E f b R)(hw:wkL wkT a b):az E f a R:=fun n=>(h n).wk hw
def DK (g:Pa→Int→Pa × List Ac)(q:Pa→Int→Prop):List DV→Option aS
 | [.agg [.int .i64 m,.int .u8 pr,p,i,u],.int .u8 b]=>some ⟨aD .i64 p∧aD .u8 i∧aD .u8 u∧q ⟨m,pr,aF p,aF i,aF u⟩ b,fun n=>(paR (g ⟨m,pr,aF p,aF i,aF u⟩ b),[])⟩
 | _=>none
theorem Oa (g:Pa→Int→Pa × List Ac)(q:Pa→Int→Prop)(m pr b:Int)(p i u:DV):DK g q [.agg [.int .i64 m,.int .u8 pr,p,i,u],.int .u8 b]=some ⟨aD .i64 p∧aD .u8 i∧aD .u8 u∧q ⟨m,pr,aF p,aF i,aF u⟩ b,fun n=>(paR (g ⟨m,pr,aF p,aF i,aF u⟩ b),[])⟩:=au _
theorem dU {k:IntKind}{d:DV}(h:aD k d):wkA d (.sl 1 (af k (aF d)) .any):=by
 obtain ⟨s,z,e,h1,h2⟩:=aL h
 generalize aF d=l at *
 subst e
 refine ⟨rfl,.inl rfl, ?_⟩
 rcases h1 with rfl | rfl
 ·exact .inl rfl
 ·exact .inr rfl
theorem iR {k0:IntKind}{d d2:DV}(h:wkA d d2)(k:aD k0 d):wk0 d d2:=by
 obtain ⟨s,z,e,h1,h2⟩:=aL k
 rw [e] at h ⊢
 exact h
theorem UQ {f:Nat}{g:Pa→Int→Pa × List Ac}{q:Pa→Int→Prop}(h:∀p b,q p b→az PG f [paD p,.int .u8 b] fun n r os=>r=(paF (g p b)).1∧os=[])(args:List DV)(s:aS)(hs:DK g q args=some s)(hp:s.pre) :
  az PG f args fun n r os=>r=(s.res n).1∧os=(s.res n).2:=by
 unfold DK at hs
 split at hs
 ·rename_i m pr p i u b
  obtain rfl:=sj hs
  obtain ⟨h1,h2,h3,h4⟩:=hp
  refine (h _ b h4).wk ⟨⟨rfl,rfl, ?_, ?_, ?_,trivial⟩,rfl,trivial⟩
  ·exact iR (dU h1) h1
  ·exact iR (dU h2) h2
  ·exact iR (dU h3) h3
 ·cases hs
noncomputable def wH:RFn:=⟨1,9,(SR [MB 2 false] [0] (SR [MV 3 0,OP 4 (.bin .geq (.t 3) (.c (.int .u8 32))),MV 5 4,MG 6 0 5 true,OG 7 (.bin .leq (.t 6) (.c (.int .u8 47))) 5 true,OP 8 (.pick (.t 5) (.t 7) (.c (.bool false))),MV 2 8] [2] .ret)),[.t 2]⟩
theorem He:aK PG.P [⟨0,0,[0],[]⟩,⟨1,0,[2],[]⟩] 55=some wH:=by kernel_rfl
noncomputable def sY:RFn:=⟨2,24,(SR [MB 4 false] [0,1] (SR [MV 5 0,OP 6 (.len (.t 5)),BI 7 .eql 6 2,MV 8 7,MG 9 0 8 true,OG 10 (.aT 1 (.t 9) (.c (.int .i64 0))) 8 true,LG 11 10 8 true,OG 12 (.bin .eql (.t 11) (.c (.int .u8 239))) 8 true,OP 13 (.pick (.t 8) (.t 12) (.c (.bool false))),MV 14 13,MG 15 0 14 true,OG 16 (.aT 1 (.t 15) (.c (.int .i64 1))) 14 true,LG 17 16 14 true,OG 18 (.bin .eql (.t 17) (.c (.int .u8 191))) 14 true,OP 19 (.pick (.t 14) (.t 18) (.c (.bool false))),MV 20 19,MG 21 1 20 true,OG 22 (.bin .eql (.t 21) (.c (.int .u8 189))) 20 true,OP 23 (.pick (.t 20) (.t 22) (.c (.bool false))),MV 4 23] [4] .ret)),[.t 4]⟩
theorem Dn:aK PG.P [⟨0,0,[0,1],[]⟩,⟨1,0,[4],[]⟩] 68=some sY:=by kernel_rfl
noncomputable def AM:RFn:=⟨2,10,(SR [OP 4 (.mov (.c (.sl 0 [] .nil)))] [0,1] (SR [MV 5 0,OP 6 (.append 1 1 (.c (.sl 0 [] .nil)) (.t 5)),MV 7 1,OP 8 (.bJ 1 [.int .u8 0] 1 [(0,(.t 7))]),OP 9 (.append 1 1 (.t 6) (.t 8)),MV 4 9] [4] .ret)),[.t 4]⟩
theorem Jz:aK PG.P [⟨0,0,[0,1],[]⟩,⟨1,0,[4],[]⟩] 111=some AM:=by kernel_rfl
noncomputable def rI:RC:=(.seq (SR [MV 5 4,MV 6 0,OP 7 (.len (.t 6)),BT 8 .lss 5 7] [0,3,4,8] (.cond (.t 8) .skip (.ext 0))) (.seq (.blk 1 (.reg [MV 11 3,MV 12 0,MV 13 4,OP 14 (.aT 1 (.t 12) (.t 13)),LD 15 14,OP 16 (.build [.int .i64 0,.int .i32 0,.int .u8 0,.int .u8 0,.sl 0 [] .nil,.sl 0 [] .nil] [(0,(1,(.c (.int .i64 0)))),(1,(1,(.t 15)))]),OP 17 (.bJ 6 [.int .i64 0,.int .i32 0,.int .u8 0,.int .u8 0,.sl 0 [] .nil,.sl 0 [] .nil] 1 [(0,(.t 16))]),OP 18 (.append 6 64 (.t 11) (.t 17)),MV 3 18] 0 [0,3,4])) (.reg [MV 9 4,BI 10 .add 9 1,MV 4 10] 0 [0,3,4])))
noncomputable def sX:RFn:=⟨1,20,(SR [OP 2 (.mov (.c (.sl 0 [] .nil)))] [0] (SR [OP 3 (.mov (.c (.sl 0 [] .nil)))] [0,3] (.seq (SR [OP 4 (.mov (.c (.int .i64 0)))] [0,3,4] (.blk 0 (.loop rI))) (SR [MV 19 3,MV 2 19] [2] .ret)))),[.t 2]⟩
theorem Dm:aK PG.P [⟨0,0,[0],[]⟩,⟨1,0,[0,3],[]⟩,⟨2,0,[0,3,4],[]⟩,⟨3,0,[0,3,4,8],[]⟩,⟨4,0,[0,3,4],[]⟩,⟨5,0,[0,3,4],[]⟩,⟨6,0,[2],[]⟩] 69=some sX:=by kernel_rfl
theorem Uz {b:Int}(mH:0≤b∧b≤255) :
  az PG 55 [.int .u8 b] fun n RR OO=>RR=((.bool (de b),[]):DV × aj).1∧OO=((.bool (de b),[]):DV × aj).2:=by
 refine az.cY (res:=fun n=>(.bool (de b),[])) mB He (by simp [wH]) fun n=>?_
 unfold wH
 dsimp only
 simp -implicitDefEqProofs -dsimp only [gN,vcR,↓an,↓ak,if_true,if_false,implies_true,simprocAttr,ne_eq,exists_eq_left,exists_eq_left',Function.comp_apply]
 grind [de]
def nT:List DV→Option aS
 | [.int .u8 b]=>some ⟨(0≤b∧b≤255)∧True,fun n=>(.bool (de b),[])⟩
 | _=>none
theorem tM (b:Int):nT [.int .u8 b]=some ⟨(0≤b∧b≤255)∧True,fun n=>(.bool (de b),[])⟩:=au _
theorem R0 (args:List DV)(s:aS)(hs:nT args=some s)(hp:s.pre):az PG 55 args fun n r os=>r=(s.res n).1∧os=(s.res n).2:=by
 unfold nT at hs
 split at hs
 ·rename_i b
  obtain rfl:=sj hs
  obtain ⟨mH,hp⟩:=hp
  have this:=Uz mH
  exact this
 ·cases hs
def gV (p:List Int)(b:Int):Bool:=decide (p=[239,191]) && decide (b=189)
theorem Sa {IL:Nat}{k_p:SK}{p:List Int}{b:Int}(Yt:IL=1∨p=[])(aah:inK .u8 p)(mH:0≤b∧b≤255) :
  az PG 68 [.sl IL (af .u8 p) k_p,.int .u8 b] fun n RR OO=>RR=((.bool (gV p b),[]):DV × aj).1∧OO=((.bool (gV p b),[]):DV × aj).2:=by
 refine az.cY (res:=fun n=>(.bool (gV p b),[])) mB Dn (by simp [sY]) fun n=>?_
 unfold sY
 dsimp only
 simp -implicitDefEqProofs -dsimp only [gN,vcR,↓an,↓ak,if_true,if_false,implies_true,simprocAttr,ne_eq,exists_eq_left,exists_eq_left',Function.comp_apply]
 have h1:∀x y,p=[x,y]→IL=1:=fun x y h=>by rcases Yt with h2 | h2;exact h2;rw [h] at h2;cases h2
 unfold gV
 rcases p with _ | ⟨x,_ | ⟨y,_ | ⟨z,l⟩⟩⟩
 ·simp
 ·simp
 ·have:=h1 x y rfl
  simp
  grind
 ·simp
  omega
def lV:List DV→Option aS
 | [a_p,.int .u8 b]=>some ⟨aD .u8 a_p∧(0≤b∧b≤255)∧True,fun n=>(.bool (gV (aF a_p) b),[])⟩
 | _=>none
theorem qw (a_p:DV)(b:Int):lV [a_p,.int .u8 b]=some ⟨aD .u8 a_p∧(0≤b∧b≤255)∧True,fun n=>(.bool (gV (aF a_p) b),[])⟩:=au _
theorem MY (args:List DV)(s:aS)(hs:lV args=some s)(hp:s.pre):az PG 68 args fun n r os=>r=(s.res n).1∧os=(s.res n).2:=by
 unfold lV at hs
 split at hs
 ·rename_i a_p b
  obtain rfl:=sj hs
  obtain ⟨aak,mH,hp⟩:=hp
  obtain ⟨acE,Z9,aau,aat,aas⟩:=aL aak
  have this:=Sa (k_p:=Z9) aat aas mH
  rw [←aau] at this
  exact this
 ·cases hs
theorem X3 {jB:Nat}{k_l:SK}{l:List Int}{b:Int}(Bz:jB=1∨l=[])(HG:inK .u8 l)(mH:0≤b∧b≤255)(hp:l.length≤1000) :
  az PG 111 [.sl jB (af .u8 l) k_l,.int .u8 b] fun n RR OO=>RR=((.own n 0 (l.length+1),[some (.arr 1 (af .u8 (l++ [b])))]):DV × aj).1∧OO=((.own n 0 (l.length+1),[some (.arr 1 (af .u8 (l++ [b])))]):DV × aj).2:=by
 refine az.cY (res:=fun n=>(.own n 0 (l.length+1),[some (.arr 1 (af .u8 (l++ [b])))])) mB Jz (by simp [AM]) fun n=>?_
 unfold AM
 dsimp only
 simp -implicitDefEqProofs -dsimp only [gN,vcR,↓an,↓ak,if_true,if_false,implies_true,simprocAttr,ne_eq,exists_eq_left,exists_eq_left',Function.comp_apply]
 exact ⟨⟨Bz.imp id fun h=>by simp [h,af],by omega,by omega⟩,by omega,by omega⟩
def qZ:List DV→Option aS
 | [a_l,.int .u8 b]=>some ⟨aD .u8 a_l∧(0≤b∧b≤255)∧(aF a_l).length≤1000,fun n=>(.own n 0 ((aF a_l).length+1),[some (.arr 1 (af .u8 ((aF a_l)++ [b])))])⟩
 | _=>none
theorem xI (a_l:DV)(b:Int):qZ [a_l,.int .u8 b]=some ⟨aD .u8 a_l∧(0≤b∧b≤255)∧(aF a_l).length≤1000,fun n=>(.own n 0 ((aF a_l).length+1),[some (.arr 1 (af .u8 ((aF a_l)++ [b])))])⟩:=au _
theorem Uo (args:List DV)(s:aS)(hs:qZ args=some s)(hp:s.pre):az PG 111 args fun n r os=>r=(s.res n).1∧os=(s.res n).2:=by
 unfold qZ at hs
 split at hs
 ·rename_i a_l b
  obtain rfl:=sj hs
  obtain ⟨tr,mH,hp⟩:=hp
  obtain ⟨MT,tg,tw,tv,tu⟩:=aL tr
  have this:=X3 (k_l:=tg) tv tu mH hp
  rw [←tw] at this
  exact this
 ·cases hs
def prF (r:Int):Ac:=⟨0,r,0,0,none,none⟩
theorem RY {jB:Nat}{k_l:SK}{l:List Int}(Bz:jB=1∨l=[])(HG:inK .i32 l)(hp:l.length≤1000) :
  az PG 69 [.sl jB (af .i32 l) k_l] fun n RR OO=>RR=((.own n 0 l.length,[some (.arr 6 (cu (l.map prF)))]):DV × aj).1∧OO=((.own n 0 l.length,[some (.arr 6 (cu (l.map prF)))]):DV × aj).2:=by
 refine az.cY (res:=fun n=>(.own n 0 l.length,[some (.arr 6 (cu (l.map prF)))])) mB Dm (by simp [sX]) fun n=>?_
 unfold sX
 dsimp only
 simp -implicitDefEqProofs -dsimp only [gN,vcR,↓an,↓ak,if_true,if_false,implies_true,simprocAttr,ne_eq,exists_eq_left,exists_eq_left',Function.comp_apply]
 refine bp.own 3 6 rfl (.inl rfl) ?_
 refine bp.abG mB (S:=fun k (i:Nat)=>⟨[(0,.sl jB (af .i32 l) k_l),(3,.own k 0 i),(4,.int .i64 i)],List.replicate k none++ [some (.arr 6 (cu ((l.take i).map prF)))]⟩) (I:=fun i=>i≤l.length) (μ:=fun i=>l.length-i) n 0 (by omega) ?_ ?_
 ·simp -implicitDefEqProofs -dsimp only [List.take_zero,tI,gN,jn,jA,vcR,↓an,↓ak,if_true,if_false,implies_true,simprocAttr,ne_eq,exists_eq_left,exists_eq_left',Function.comp_apply]
 ·intro k i hk hi
  have hL:((l.take i).map prF).length=i:=by rw [List.length_map,List.length_take];omega
  unfold rI
  simp -implicitDefEqProofs -dsimp only [hL,tI,gN,jn,jA,vcR,↓an,↓ak,if_true,if_false,implies_true,simprocAttr,ne_eq,exists_eq_left,exists_eq_left',Function.comp_apply]
  refine ⟨fun h=>?_,fun h=>?_⟩
  ·have h0:i<l.length:=by omega
   have hsz:jB=1:=by rcases Bz with h | h;exact h;subst h;simp at h0
   have hgd:l.getD i 0=l[i]:=by rw [List.getD_eq_getElem?_getD,List.getElem?_eq_getElem h0];rfl
   refine ⟨⟨by omega,h,hsz⟩,h0,⟨by omega,by omega⟩,by omega,i+1,⟨⟨rfl,by rw [aP] <;> omega⟩, ?_⟩,by omega,by omega⟩
   rw [List.take_succ_eq_append_getElem h0,List.map_append,hgd]
   rfl
  ·have h1:i=l.length:=by omega
   subst h1
   rw [List.take_length]
   exact ⟨by omega,by omega,rfl,rfl⟩
def jV:List DV→Option aS
 | [a_l]=>some ⟨aD .i32 a_l∧(aF a_l).length≤1000,fun n=>(.own n 0 (aF a_l).length,[some (.arr 6 (cu ((aF a_l).map prF)))])⟩
 | _=>none
theorem mX (a_l:DV):jV [a_l]=some ⟨aD .i32 a_l∧(aF a_l).length≤1000,fun n=>(.own n 0 (aF a_l).length,[some (.arr 6 (cu ((aF a_l).map prF)))])⟩:=au _
theorem MW (args:List DV)(s:aS)(hs:jV args=some s)(hp:s.pre):az PG 69 args fun n r os=>r=(s.res n).1∧os=(s.res n).2:=by
 unfold jV at hs
 split at hs
 ·rename_i a_l
  obtain rfl:=sj hs
  obtain ⟨tr,hp⟩:=hp
  obtain ⟨MT,tg,tw,tv,tu⟩:=aL tr
  have this:=RY (k_l:=tg) tv tu hp
  rw [←tw] at this
  exact this
 ·cases hs
noncomputable def pK:RFn:=⟨1,6,(SR [MB 2 false] [0] (SR [MV 3 0,OP 4 (.call 86 [.t 3]),OP 5 (.un .not (.t 4)),MV 2 5] [2] .ret)),[.t 2]⟩
theorem AE:aK PG.P [⟨0,0,[0],[]⟩,⟨1,0,[2],[]⟩] 85=some pK:=by kernel_rfl
theorem DG (args:List DV):tab T27 86 args=(jx args).map .o:=au _
theorem MC {b:Int}(mH:0≤b∧b≤255) :
  az PG 85 [.int .u8 b] fun n RR OO=>RR=((.bool (!de b),[]):DV × aj).1∧OO=((.bool (!de b),[]):DV × aj).2:=by
 refine az.cY (res:=fun n=>(.bool (!de b),[])) mB AE (by simp [pK]) fun n=>?_
 unfold pK
 dsimp only
 simp -implicitDefEqProofs -dsimp only [DG,ic,gN,jn,jA,vcR,↓an,↓ak,if_true,if_false,implies_true,simprocAttr,ne_eq,exists_eq_left,exists_eq_left',Function.comp_apply]
 exact mH
def mD:List DV→Option aS
 | [.int .u8 b]=>some ⟨(0≤b∧b≤255)∧True,fun n=>(.bool (!de b),[])⟩
 | _=>none
theorem vM (b:Int):mD [.int .u8 b]=some ⟨(0≤b∧b≤255)∧True,fun n=>(.bool (!de b),[])⟩:=au _
theorem Iw (args:List DV)(s:aS)(hs:mD args=some s)(hp:s.pre):az PG 85 args fun n r os=>r=(s.res n).1∧os=(s.res n).2:=by
 unfold mD at hs
 split at hs
 ·rename_i b
  obtain rfl:=sj hs
  obtain ⟨mH,hp⟩:=hp
  have this:=MC mH
  exact this
 ·cases hs
def acv:FL:=(85,mD)::T27
theorem Rk:FOk PG (tab acv):=FOk.cons mB Iw
theorem nQ (args:List DV):tab acv 85 args=(mD args).map .o:=au _
theorem Wg:fG PG.P 85=true:=by kernel_rfl
def zo (l:List Int):Int:=match l.findIdx? (fun b=>!de b) with
 | some i=>i
 | none=>-1
noncomputable def nB:RC:=(SR [BT 9 .lss 8 7] [0,1,7,8,9] (.seq (.cond (.t 9) .skip (.ext 0)) (.seq (.blk 1 (SR [MV 10 8,MV 5 10] [0,1,5,7,8] (SR [MV 11 1,MV 12 0,MV 13 5,OP 14 (.aT 1 (.t 12) (.t 13)),LD 15 14,OP 16 (.iH (.t 11) [.t 15])] [0,1,5,7,8,16] (.cond (.t 16) (SR [MV 17 5,MV 4 17] [4] .ret) .skip)))) (.reg [BI 18 .add 8 1,MV 8 18] 0 [0,1,7,8]))))
noncomputable def m4:RFn:=⟨2,19,(SR [OP 4 (.mov (.c (.int .i64 0)))] [0,1] (.seq (SR [MV 6 0,OP 7 (.len (.t 6)),OP 8 (.mov (.c (.int .i64 0)))] [0,1,7,8] (.blk 0 (.loop nB))) (SR [OP 4 (.mov (.c (.int .i64 (-1))))] [4] .ret))),[.t 4]⟩
theorem wq:aK PG.P [⟨0,0,[0,1],[]⟩,⟨1,0,[0,1,7,8],[]⟩,⟨2,0,[0,1,7,8,9],[]⟩,⟨3,0,[0,1,5,7,8],[]⟩,⟨4,0,[0,1,5,7,8,16],[]⟩,⟨5,0,[4],[]⟩,⟨6,0,[0,1,7,8],[]⟩,⟨7,0,[4],[]⟩] 124=some m4:=by kernel_rfl
theorem Gn {sz:Nat}{k:SK}{l:List Int}(hs:sz=1∨l=[])(hk:inK .u8 l) :
  az PG 124 [.sl sz (af .u8 l) k,.lit (.func (.func 85) #[] #[])] fun n r os=>r=.int .i64 (zo l)∧os=[]:=by
 refine az.cY (res:=fun n=>(.int .i64 (zo l),[])) Rk wq (by simp [m4]) fun n=>?_
 unfold m4
 dsimp only
 simp -implicitDefEqProofs -dsimp only [nQ,vM,Wg,↓fQ,tE,gN,jn,jA,vcR,↓an,↓ak,if_true,if_false,implies_true,simprocAttr,ne_eq,exists_eq_left,exists_eq_left',Function.comp_apply]
 refine bp.inv Rk (S:=fun i:Nat=>⟨[(0,.sl sz (af .u8 l) k),(1,.lit (.func (.func 85) #[] #[])),(7,.int .i64 l.length),(8,.int .i64 i)],List.replicate n none⟩) (I:=fun i=>i≤l.length∧∀j,j<i→de (l.getD j 0)=true) (μ:=fun i=>l.length-i) 0 ⟨by omega,by omega⟩ ?_ ?_
 ·simp -implicitDefEqProofs -dsimp only [gN,jn,jA,vcR,↓an,↓ak,if_true,if_false,implies_true,simprocAttr,ne_eq,exists_eq_left,exists_eq_left',Function.comp_apply]
  exact fP _
 ·intro i ⟨hi,hv⟩
  unfold nB
  simp -implicitDefEqProofs -dsimp only [nQ,vM,Wg,↓fQ,tE,gN,jn,jA,vcR,↓an,↓ak,if_true,if_false,implies_true,simprocAttr,ne_eq,exists_eq_left,exists_eq_left',Function.comp_apply]
  refine ⟨fun h=>?_,fun h=>?_⟩
  ·have h0:i<l.length:=by omega
   have hsz:sz=1:=by rcases hs with h | h;exact h;subst h;simp at h0
   have hgd:l.getD i 0=l[i]:=by rw [List.getD_eq_getElem?_getD,List.getElem?_eq_getElem h0];rfl
   refine ⟨⟨by omega,h,hsz⟩,h0,hk.u8 (by rw [hgd];exact List.getElem_mem _), ?_⟩
   have hkl:=hk.1
   cases hvi:de (l.getD i 0) with
   | true=>
    rw [iN]
    refine ⟨i+1,⟨fP _,by rw [aP] <;> omega⟩,⟨by omega,fun j hj=>?_⟩,by omega⟩
    by_cases hji:j=i
    ·subst hji;exact hvi
    ·exact hv j (by omega)
   | false=>
    rw [gz]
    have:l.findIdx? (fun b=>!de b)=some i:=by
     rw [List.findIdx?_eq_some_iff_getElem]
     refine ⟨h0,by rw [←hgd,hvi];rfl,fun j hj=>?_⟩
     have h2:=hv j hj
     rw [List.getD_eq_getElem?_getD,List.getElem?_eq_getElem (by omega)] at h2
     simpa using h2
    simp [zo,this]
  ·have:l.findIdx? (fun b=>!de b)=none:=by
    rw [List.findIdx?_eq_none_iff]
    intro x hx
    obtain ⟨j,hj,rfl⟩:=List.getElem_of_mem hx
    have h2:=hv j (by omega)
    rw [List.getD_eq_getElem?_getD,List.getElem?_eq_getElem hj] at h2
    simpa using h2
   simp [zo,this]
def T30:FL:=(55,nT)::(68,lV)::(111,qZ)::(69,jV)::T27
theorem N0:FOk PG (tab T30):=FOk.cons (FOk.cons (FOk.cons (FOk.cons (mB) MW) Uo) MY) R0
theorem rY (args:List DV):tab T30 55 args=(nT args).map .o:=au _
theorem qf (args:List DV):tab T30 68 args=(lV args).map .o:=au _
theorem vw (args:List DV):tab T30 111 args=(qZ args).map .o:=au _
theorem qe (args:List DV):tab T30 69 args=(jV args).map .o:=au _
theorem vu (args:List DV):tab T30 33 args=(qY args).map .o:=au _
theorem qc (args:List DV):tab T30 59 args=(lU args).map .o:=au _
theorem yT (args:List DV):tab T30 126 args=(xH args).map .o:=au _
theorem r6 (args:List DV):tab T30 57 args=(mF args).map .o:=au _
theorem r5 (args:List DV):tab T30 58 args=(mE args).map .o:=au _
theorem rX (args:List DV):tab T30 86 args=(jx args).map .o:=au _
theorem vv (args:List DV):tab T30 90 args=(mW args).map .o:=au _
theorem vz (args:List DV):tab T30 67 args=(lN args).map .o:=au _
theorem vt (args:List DV):tab T30 110 args=(mV args).map .o:=au _
theorem qg (args:List DV):tab T30 54 args=(iE args).map .o:=au _
theorem yU (args:List DV):tab T30 60 args=(m8 args).map .o:=au _
theorem qd (args:List DV):tab T30 50 args=(gB args).map .o:=au _
theorem rZ (args:List DV):tab T30 89 args=(jz args).map .o:=au _
theorem yW (args:List DV):tab T30 83 args=(oN args).map .o:=au _
theorem yV (args:List DV):tab T30 125 args=(oL args).map .o:=au _
theorem CJ (args:List DV):tab T30 87 args=(qx args).map .o:=au _
theorem acu:type_of% (And.intro @rY <| And.intro @tM <| And.intro @qf <| And.intro @qw <| And.intro @vw <| And.intro @xI <| And.intro @qe <| And.intro @mX <| And.intro @vu <| And.intro @xG <| And.intro @qc <| And.intro @qv <| And.intro @yT <| And.intro @vN <| And.intro @r6 <| And.intro @jY <| And.intro @r5 <| And.intro @jX <| And.intro @rX <| And.intro @ic <| And.intro @vv <| And.intro @jU <| And.intro @vz <| And.intro @ji <| And.intro @vt <| And.intro @jh <| And.intro @qg <| And.intro @eZ <| And.intro @yU <| And.intro @ie <| And.intro @qd <| And.intro @di <| And.intro @rZ <| And.intro @eK <| And.intro @yW <| And.intro @ij <| And.intro @yV <| And.intro @ig <| And.intro @CJ <| @eF):=And.intro @rY <| And.intro @tM <| And.intro @qf <| And.intro @qw <| And.intro @vw <| And.intro @xI <| And.intro @qe <| And.intro @mX <| And.intro @vu <| And.intro @xG <| And.intro @qc <| And.intro @qv <| And.intro @yT <| And.intro @vN <| And.intro @r6 <| And.intro @jY <| And.intro @r5 <| And.intro @jX <| And.intro @rX <| And.intro @ic <| And.intro @vv <| And.intro @jU <| And.intro @vz <| And.intro @ji <| And.intro @vt <| And.intro @jh <| And.intro @qg <| And.intro @eZ <| And.intro @yU <| And.intro @ie <| And.intro @qd <| And.intro @di <| And.intro @rZ <| And.intro @eK <| And.intro @yW <| And.intro @ij <| And.intro @yV <| And.intro @ig <| And.intro @CJ <| @eF
noncomputable def Hf:RFn:=⟨2,102,(SR [OP 2 (.box 5 (.t 0)),OP 4 (.alloc [.int .i64 0,.int .u8 0,.sl 0 [] .nil,.sl 0 [] .nil,.sl 0 [] .nil]),OP 5 (.mov (.c (.sl 0 [] .nil)))] [1,2,4] (SR [OP 9 (.build [.int .i64 0,.int .u8 0,.sl 0 [] .nil,.sl 0 [] .nil,.sl 0 [] .nil] [(0,(1,(.c (.int .i64 6))))]),OP 6 (.alloc [.int .i64 0,.int .u8 0,.sl 0 [] .nil,.sl 0 [] .nil,.sl 0 [] .nil]),SA 5 6 9] [1,2,4,6] (.seq (.blk 0 (SR [MV 11 1,OP 12 (.bin .geq (.t 11) (.c (.int .u8 64))),MV 10 12] [1,2,4,6,10] (.cond (.t 10) (.seq (.cK (.take (OP 13 (.build [.int .i64 0,.int .u8 0,.sl 0 [] .nil,.sl 0 [] .nil,.sl 0 [] .nil] [])) [] (.take (MV 14 1) [] (.take (FA 15 1 2) [] (.take (LD 16 15) [.t 4] (.take (FA 17 2 2) [] (.take (LD 18 17) [.t 4] (.take (FA 19 3 2) [] (.take (LD 20 19) [.t 4] (.take (OP 21 (.build [.int .i64 0,.int .i32 0,.int .u8 0,.int .u8 0,.sl 0 [] .nil,.sl 0 [] .nil] [(0,(1,(.c (.int .i64 3)))),(2,(1,(.t 14))),(3,(1,(.t 16))),(4,(1,(.t 18))),(5,(1,(.t 20)))])) [] (.alt (.op (OP 22 (.bJ 6 [.int .i64 0,.int .i32 0,.int .u8 0,.int .u8 0,.sl 0 [] .nil,.sl 0 [] .nil] 1 [(0,(.t 21))])) (.op (SA 5 4 13) (.take (MV 5 22) [] .done))) (.op (SA 5 4 13) (.op (OP 22 (.bJ 6 [.int .i64 0,.int .i32 0,.int .u8 0,.int .u8 0,.sl 0 [] .nil,.sl 0 [] .nil] 1 [(0,(.t 21))])) (.take (MV 5 22) [] .done))))))))))))) 0 [4,5]) .ret) (SR [MV 24 1,OP 25 (.call 55 [.t 24]),MV 23 25] [1,2,4,6,23] (.cond (.t 23) (.seq (SR [FA 26 3 2,LD 27 26,OP 28 (.len (.t 27)),BI 29 .geq 28 2] [1,2,4,6,29] (.cond (.t 29) (SR [LT 30 5 6,SA 5 4 30,OP 5 (.mov (.c (.sl 0 [] .nil)))] [4,5] .ret) .skip)) (SR [FA 31 3 2,LD 32 31,MV 33 1,OP 34 (.call 111 [.t 32,.t 33]),FA 35 0 2,NP (.store 1 (.t 35) (.c (.int .i64 5))),FA 36 3 2,SA 1 36 34] [2,4] (SR [LT 37 5 2,SA 5 4 37,OP 5 (.mov (.c (.sl 0 [] .nil)))] [4,5] .ret))) (SR [FA 39 0 2,LD 40 39,BI 41 .eql 40 5,MV 42 41,MG 43 1 42 false,OG 44 (.bin .eql (.t 43) (.c (.int .u8 58))) 42 false,OP 45 (.pick (.t 42) (.c (.bool true)) (.t 44)),MV 38 45] [1,2,4,6,38] (.cond (.t 38) (SR [LT 46 5 6,SA 5 4 46,OP 5 (.mov (.c (.sl 0 [] .nil)))] [4,5] .ret) (SR [MV 48 1,OP 49 (.bin .geq (.t 48) (.c (.int .u8 60))),MV 47 49] [1,2,4,6,47] (.cond (.t 47) (.seq (SR [FA 50 2 2,LD 51 50,OP 52 (.len (.t 51)),BI 53 .gtr 52 0,MV 54 53,FG 55 1 2 54 false,LG 56 55 54 false,OG 57 (.bin .neq (.t 56) (.c (.int .u8 0))) 54 false,OP 58 (.pick (.t 54) (.c (.bool true)) (.t 57))] [1,2,4,6,58] (.cond (.t 58) (SR [LT 59 5 6,SA 5 4 59,OP 5 (.mov (.c (.sl 0 [] .nil)))] [4,5] .ret) .skip)) (SR [MV 60 1,FA 61 1 2,SA 1 61 60] [2,4] (SR [LT 62 5 2,SA 5 4 62,OP 5 (.mov (.c (.sl 0 [] .nil)))] [4,5] .ret))) .skip))))))))) (SR [FA 63 2 2,LD 64 63,OP 65 (.append 1 8 (.c (.sl 0 [] .nil)) (.t 64)),MV 7 65] [1,2,4,6,7] (.seq (SR [MV 66 7,OP 67 (.len (.t 66)),BI 68 .eql 67 0] [1,2,4,6,7,68] (.cond (.t 68) (.reg [MV 69 7,OP 70 (.bJ 1 [.int .i64 0] 1 [(0,(.c (.int .i64 0)))]),OP 71 (.append 1 8 (.t 69) (.t 70)),MV 7 71] 0 [1,2,4,6,7]) .skip)) (.seq (SR [MV 72 1,OP 73 (.bin .eql (.t 72) (.c (.int .u8 59)))] [1,2,4,6,7,73] (.cond (.t 73) (.seq (SR [MV 74 7,OP 75 (.len (.t 74)),BI 76 .geq 75 16] [2,4,6,7,76] (.cond (.t 76) (SR [LT 77 5 6,SA 5 4 77,OP 5 (.mov (.c (.sl 0 [] .nil)))] [4,5] .ret) .skip)) (SR [MV 78 7,OP 79 (.bJ 1 [.int .i64 0] 1 [(0,(.c (.int .i64 0)))]),OP 80 (.append 1 8 (.t 78) (.t 79)),FA 81 2 2,SA 1 81 80] [2,4] (SR [LT 82 5 2,SA 5 4 82,OP 5 (.mov (.c (.sl 0 [] .nil)))] [4,5] .ret))) .skip)) (SR [MV 83 7,OP 84 (.len (.t 83)),BI 85 .sub 84 1,MV 8 85] [1,2,4,7,8] (SR [MV 86 7,MV 87 8,MV 88 7,MV 89 8,OP 90 (.aT 1 (.t 88) (.t 89)),LD 91 90,OP 92 (.bin .mul (.c (.int .i64 10)) (.t 91)),MV 93 1,OP 94 (.bin .sub (.t 93) (.c (.int .u8 48))),OP 95 (.conv (.i2i .i64) (.t 94)),BT 96 .add 92 95,OP 97 (.mm false (.t 96) (.c (.int .i64 65535))),OP 98 (.aT 1 (.t 86) (.t 87)),SA 1 98 97] [2,4,7] (SR [MV 99 7,FA 100 2 2,SA 1 100 99] [2,4] (SR [LT 101 5 2,SA 5 4 101,OP 5 (.mov (.c (.sl 0 [] .nil)))] [4,5] .ret)))))))))),[.c 4 true 5,.t 5]⟩
theorem Nd:aK PG.P [⟨0,0,[1,2,4],[]⟩,⟨1,0,[1,2,4,6],[]⟩,⟨2,0,[1,2,4,6,10],[]⟩,⟨3,0,[4,5],[]⟩,⟨4,0,[1,2,4,6,23],[]⟩,⟨5,0,[1,2,4,6,29],[]⟩,⟨6,0,[4,5],[]⟩,⟨7,0,[2,4],[]⟩,⟨8,0,[4,5],[]⟩,⟨9,0,[1,2,4,6,38],[]⟩,⟨10,0,[4,5],[]⟩,⟨11,0,[1,2,4,6,47],[]⟩,⟨12,0,[1,2,4,6,58],[]⟩,⟨13,0,[4,5],[]⟩,⟨14,0,[2,4],[]⟩,⟨15,0,[4,5],[]⟩,⟨16,0,[1,2,4,6,7],[]⟩,⟨17,0,[1,2,4,6,7,68],[]⟩,⟨18,0,[1,2,4,6,7],[]⟩,⟨19,0,[1,2,4,6,7,73],[]⟩,⟨20,0,[2,4,6,7,76],[]⟩,⟨21,0,[4,5],[]⟩,⟨22,0,[2,4],[]⟩,⟨23,0,[4,5],[]⟩,⟨24,0,[1,2,4,7,8],[]⟩,⟨25,0,[2,4,7],[]⟩,⟨26,0,[2,4],[]⟩,⟨27,0,[4,5],[]⟩] 112=some Hf:=by kernel_rfl
def kC (p:Pa)(b:Int):Pa × List Ac:=
 if 64≤b then jF p b
 else if de b=true then (if 2≤(p.I.length:Int) then (pa0 6,[]) else (⟨5,p.pr,p.P,p.I++ [b],p.U⟩,[]))
 else if p.m=5∨b=58 then (pa0 6,[])
 else if 60≤b then (if 0<(p.P.length:Int)∨p.pr≠0 then (pa0 6,[]) else (⟨p.m,b,p.P,p.I,p.U⟩,[]))
 else if (p.P.length:Int)=0 then (if b=59 then (⟨p.m,p.pr,[0,0],p.I,p.U⟩,[]) else (⟨p.m,p.pr,[min (b-48) 65535],p.I,p.U⟩,[]))
 else if b=59 then (if 16≤(p.P.length:Int) then (pa0 6,[]) else (⟨p.m,p.pr,p.P++ [0],p.I,p.U⟩,[]))
 else (⟨p.m,p.pr,mI p.P b,p.I,p.U⟩,[])
theorem ZR {p:Pa}{b:Int}(hp:dg p)(hb:32≤b∧b≤255):az PG 112 [paD p,.int .u8 b] fun n r os=>r=(paF (kC p b)).1∧os=[]:=by
 obtain ⟨m,pr,P,I,U⟩:=p
 obtain ⟨h1,h2,h3,h4,h5,h6,h7⟩:=hp
 simp only at h1 h2 h3 h4 h5 h6 h7
 refine az.iI (res:=fun n=>paF (kC ⟨m,pr,P,I,U⟩ b)) N0 Nd (by simp [Hf]) fun n=>?_
 unfold Hf
 dsimp only [paD]
 simp -implicitDefEqProofs -dsimp only [acu,mj,gx,aM,List.length_set,List.take_length,yq,tI,gN,jn,jA,vcR,↓an,↓ak,if_true,if_false,implies_true,simprocAttr,ne_eq,exists_eq_left,exists_eq_left',Function.comp_apply]
 have ht1:List.take (P.length+1) (P++ [0])=P++ [0]:=List.take_of_length_le (by simp)
 have ht2:∀k v,List.take P.length (P.set k v)=P.set k v:=fun k v=>List.take_of_length_le (by simp)
 have ht3:List.take (I.length+1) (I++ [b])=I++ [b]:=List.take_of_length_le (by simp)
 have SC:IntKind.i64.wrap ((P.length:Int)-1)=(P.length:Int)-1:=aP (by omega) (by omega)
 have hw8:¬64≤b→de b=false→IntKind.u8.wrap (b-48)=b-48∧IntKind.i64.wrap (b-48)=b-48∧IntKind.i64.wrap (0+(b-48))=b-48:=fun h hv=>by
  simp only [de,Bool.and_eq_false_iff,decide_eq_false_iff_not] at hv
  rw [Int.zero_add]
  exact ⟨wU8 (by omega) (by omega),aP (by omega) (by omega),aP (by omega) (by omega)⟩
 have hd:0<P.length→min (IntKind.i64.wrap (IntKind.i64.wrap (10*P.getD (P.length-1) 0)+(b-48))) 65535=min (10*P.getD (P.length-1) 0+(b-48)) 65535:=fun h=>by
  have hmem:P.getD (P.length-1) 0∈P:=by
   rw [List.getD_eq_getElem?_getD,List.getElem?_eq_getElem (by omega)]
   exact List.getElem_mem _
  have:=h7 _ hmem
  rw [aP (n:=10*P.getD (P.length-1) 0) (by omega) (by omega),aP (by omega) (by omega)]
 have SB:((P.length:Int)-1).toNat=P.length-1:=by omega
 simp only [ht1,ht2,ht3]
 clear h7 ht1 ht2 ht3
 rcases Nat.eq_zero_or_pos P.length with hP | hP
 ·have:P=[]:=List.eq_nil_of_length_eq_zero hP
  subst this
  clear hd SC SB hP
  simp -implicitDefEqProofs -dsimp only [List.length_nil,List.nil_append,Nat.zero_add]
  simp only [oG]
  (repeat' (first | with_reducible exact Or.inl rfl | intro _ | (with_reducible apply And.intro)))
  all_goals first
   | exact .inl rfl | exact .inr rfl | exact .inr ⟨rfl,trivial⟩
   | trivial
   | assumption
   | omega
   | exact rfl
   | (dsimp only [kC];(repeat (first | rw [if_pos (by first | omega | assumption | exact Or.inl (by assumption) | exact Or.inr (by assumption))] | rw [if_neg (by first | omega | exact Bool.eq_false_iff.1 (by assumption) | exact Bool.eq_true_imp_not_false (by assumption) | assumption)]));first | exact fP _ | rfl | (simp [paF,paR,paD,pa0,jF,dj,cF,dm,dw,cV,eV,eU,bQ,bk];done))
   | (rename_i hh;exact (h1.2 _ hh).1)
   | (rename_i hh;exact (h1.2 _ hh).2)
   | (rename_i hh;exact (h2.2 _ hh).1)
   | (rename_i hh;exact (h2.2 _ hh).2)
   | (rename_i hh;exact (h3.2 _ hh).1)
   | (rename_i hh;exact (h3.2 _ hh).2)
   | (show List.length _≤_;dsimp only;omega)
   | decide
   | (dsimp only [kC];(repeat (first | rw [if_pos (by first | omega | assumption | exact Or.inl (by assumption) | exact Or.inr (by assumption))] | rw [if_neg (by first | omega | exact Bool.eq_false_iff.1 (by assumption) | exact Bool.eq_true_imp_not_false (by assumption) | assumption)]));(simp [paF,paR,paD,pa0,jF,mI,dj,cF,dm,dw,cV,eV,eU,bQ,bk, *];done))
   | (simp [*];done)
   | skip
  obtain ⟨e1,e2,e3⟩:=hw8 (by assumption) (by assumption)
  have hf:kC ⟨m,pr,[],I,U⟩ b=(⟨m,pr,[min (b-48) 65535],I,U⟩,[]):=by
   dsimp only [kC]
   rw [if_neg (by assumption),if_neg (by rw [‹de b=false›];decide),if_neg (by omega),if_neg (by omega),if_pos (by simp),if_neg (by assumption)]
  rw [hf,e1,e2,show IntKind.i64.wrap (((1:Nat):Int)-1)=0 from by decide]
  simp only [Int.toNat_zero,List.getD_cons_zero,show IntKind.i64.wrap (10*0)=0 from by decide,e3]
  simp [paF,paR,paD,dj,cF,dm,dw,cV,eV,eU,bQ,bk]
 ·have hd:=hd hP
  simp only [SC,SB]
  clear SC SB
  simp only [oG]
  (repeat' (first | with_reducible exact Or.inl rfl | intro _ | (with_reducible apply And.intro)))
  all_goals first
   | exact .inl rfl | exact .inr rfl | exact .inr ⟨rfl,trivial⟩
   | trivial
   | assumption
   | omega
   | exact rfl
   | (dsimp only [kC];(repeat (first | rw [if_pos (by first | omega | assumption | exact Or.inl (by assumption) | exact Or.inr (by assumption))] | rw [if_neg (by first | omega | exact Bool.eq_false_iff.1 (by assumption) | exact Bool.eq_true_imp_not_false (by assumption) | assumption)]));first | exact fP _ | rfl | (simp [paF,paR,paD,pa0,jF,dj,cF,dm,dw,cV,eV,eU,bQ,bk];done))
   | (rename_i hh;exact (h1.2 _ hh).1)
   | (rename_i hh;exact (h1.2 _ hh).2)
   | (rename_i hh;exact (h2.2 _ hh).1)
   | (rename_i hh;exact (h2.2 _ hh).2)
   | (rename_i hh;exact (h3.2 _ hh).1)
   | (rename_i hh;exact (h3.2 _ hh).2)
   | (show List.length _≤_;dsimp only;omega)
   | decide
   | (dsimp only [kC];(repeat (first | rw [if_pos (by first | omega | assumption | exact Or.inl (by assumption) | exact Or.inr (by assumption))] | rw [if_neg (by first | omega | exact Bool.eq_false_iff.1 (by assumption) | exact Bool.eq_true_imp_not_false (by assumption) | assumption)]));(simp [paF,paR,paD,pa0,jF,mI,dj,cF,dm,dw,cV,eV,eU,bQ,bk, *];done))
   | (simp [*];done)
   | skip
  obtain ⟨e1,e2,e3⟩:=hw8 (by assumption) (by assumption)
  have hf:kC ⟨m,pr,P,I,U⟩ b=(⟨m,pr,mI P b,I,U⟩,[]):=by
   dsimp only [kC]
   rw [if_neg (by assumption),if_neg (by rw [‹de b=false›];decide),if_neg (by omega),if_neg (by omega),if_neg (by assumption),if_neg (by assumption)]
  rw [hf,e1,e2,hd]
  simp [paF,paR,paD,mI,dj,cF,dm,dw,cV,eV,eU,bQ,bk]
def qR (p:Pa)(b:Int):Prop:=dg p∧32≤b∧b≤255
def WO:=DK kC qR
theorem X8 (args:List DV)(s:aS)(hs:WO args=some s)(hp:s.pre):az PG 112 args fun n r os=>r=(s.res n).1∧os=(s.res n).2:=
 UQ (g:=kC) (q:=qR) (fun p b h=>ZR h.1 h.2) args s hs hp
def T31:FL:=(112,WO)::T30
theorem WH:FOk PG (tab T31):=FOk.cons N0 X8
theorem NZ (args:List DV):tab T31 112 args=(DK kC qR args).map .o:=au _
theorem HZ (args:List DV):tab T31 55 args=(nT args).map .o:=au _
theorem Mf (args:List DV):tab T31 111 args=(qZ args).map .o:=au _
theorem DF (args:List DV):tab T31 69 args=(jV args).map .o:=au _
theorem Mg (args:List DV):tab T31 67 args=(lN args).map .o:=au _
noncomputable def wF:RFn:=⟨2,141,(SR [OP 2 (.box 5 (.t 0)),OP 4 (.alloc [.int .i64 0,.int .u8 0,.sl 0 [] .nil,.sl 0 [] .nil,.sl 0 [] .nil]),OP 5 (.mov (.c (.sl 0 [] .nil)))] [1,2,4] (.seq (.blk 0 (SR [MV 9 1,OP 10 (.bin .eql (.t 9) (.c (.int .u8 24))),MV 11 10,MG 12 1 11 false,OG 13 (.bin .eql (.t 12) (.c (.int .u8 26))) 11 false,OP 14 (.pick (.t 11) (.c (.bool true)) (.t 13)),MV 8 14] [1,2,4,8] (.cond (.t 8) (SR [OP 15 (.build [.int .i64 0,.int .u8 0,.sl 0 [] .nil,.sl 0 [] .nil,.sl 0 [] .nil] []),SA 5 4 15,OP 5 (.mov (.c (.sl 0 [] .nil)))] [4,5] .ret) (SR [MV 17 1,OP 18 (.bin .eql (.t 17) (.c (.int .u8 27))),MV 16 18] [1,2,4,16] (.cond (.t 16) (SR [OP 19 (.build [.int .i64 0,.int .u8 0,.sl 0 [] .nil,.sl 0 [] .nil,.sl 0 [] .nil] [(0,(1,(.c (.int .i64 1))))]),SA 5 4 19,OP 5 (.mov (.c (.sl 0 [] .nil)))] [4,5] .ret) (SR [FA 21 0 2,LD 22 21,BI 23 .eql 22 0,MV 20 23] [1,2,4,20] (.cond (.t 20) (.seq (SR [MV 24 1,OP 25 (.bin .lss (.t 24) (.c (.int .u8 32)))] [1,4,25] (.cond (.t 25) (SR [OP 26 (.build [.int .i64 0,.int .u8 0,.sl 0 [] .nil,.sl 0 [] .nil,.sl 0 [] .nil] []),MV 27 1,OP 28 (.build [.int .i64 0,.int .i32 0,.int .u8 0,.int .u8 0,.sl 0 [] .nil,.sl 0 [] .nil] [(0,(1,(.c (.int .i64 1)))),(2,(1,(.t 27)))]),OP 29 (.bJ 6 [.int .i64 0,.int .i32 0,.int .u8 0,.int .u8 0,.sl 0 [] .nil,.sl 0 [] .nil] 1 [(0,(.t 28))]),SA 5 4 26,MV 5 29] [4,5] .ret) .skip)) (.seq (SR [MV 30 1,OP 31 (.bin .eql (.t 30) (.c (.int .u8 127)))] [1,4,31] (.cond (.t 31) (SR [OP 32 (.build [.int .i64 0,.int .u8 0,.sl 0 [] .nil,.sl 0 [] .nil,.sl 0 [] .nil] []),SA 5 4 32,OP 5 (.mov (.c (.sl 0 [] .nil)))] [4,5] .ret) .skip)) (SR [MV 34 1,OP 35 (.call 67 [.c (.sl 0 [] .nil),.t 34]),MV 33 35,OP 36 (.ext (.t 33) 0),OP 37 (.ext (.t 33) 1),MV 6 36,MV 7 37] [4,6,7] (SR [MV 38 6,OP 39 (.build [.int .i64 0,.int .u8 0,.sl 0 [] .nil,.sl 0 [] .nil,.sl 0 [] .nil] [(4,(1,(.t 38)))]),MV 40 7,OP 41 (.call 69 [.t 40]),SA 5 4 39,MV 5 41] [4,5] .ret)))) (SR [FA 43 0 2,LD 44 43,BI 45 .eql 44 7,MV 42 45] [1,2,4,42] (.cond (.t 42) (.seq (SR [MV 46 1,OP 47 (.bin .eql (.t 46) (.c (.int .u8 7)))] [2,4,47] (.cond (.t 47) (SR [OP 48 (.build [.int .i64 0,.int .u8 0,.sl 0 [] .nil,.sl 0 [] .nil,.sl 0 [] .nil] []),SA 5 4 48,OP 5 (.mov (.c (.sl 0 [] .nil)))] [4,5] .ret) .skip)) (SR [LT 49 5 2,SA 5 4 49,OP 5 (.mov (.c (.sl 0 [] .nil)))] [4,5] .ret)) (SR [MV 51 1,OP 52 (.bin .lss (.t 51) (.c (.int .u8 32))),MV 50 52] [1,2,4,50] (.cond (.t 50) (SR [LT 53 5 2,MV 54 1,OP 55 (.build [.int .i64 0,.int .i32 0,.int .u8 0,.int .u8 0,.sl 0 [] .nil,.sl 0 [] .nil] [(0,(1,(.c (.int .i64 1)))),(2,(1,(.t 54)))]),OP 56 (.bJ 6 [.int .i64 0,.int .i32 0,.int .u8 0,.int .u8 0,.sl 0 [] .nil,.sl 0 [] .nil] 1 [(0,(.t 55))]),SA 5 4 53,MV 5 56] [4,5] .ret) (SR [MV 58 1,OP 59 (.bin .eql (.t 58) (.c (.int .u8 127))),MV 57 59] [1,2,4,57] (.cond (.t 57) (SR [LT 60 5 2,SA 5 4 60,OP 5 (.mov (.c (.sl 0 [] .nil)))] [4,5] .ret) (SR [MV 62 1,OP 63 (.bin .geq (.t 62) (.c (.int .u8 128))),MV 61 63] [1,2,4,61] (.cond (.t 61) (SR [OP 64 (.build [.int .i64 0,.int .u8 0,.sl 0 [] .nil,.sl 0 [] .nil,.sl 0 [] .nil] []),SA 5 4 64,OP 5 (.mov (.c (.sl 0 [] .nil)))] [4,5] .ret) .skip))))))))))))))) (.seq (SR [FA 65 0 2,LD 66 65] [1,2,4,66] (.blk 1 (SR [BI 68 .eql 66 1,MV 67 68] [1,2,4,66,67] (.cond (.t 67) (.seq (.blk 2 (SR [MV 70 1,OP 71 (.call 55 [.t 70]),MV 69 71] [1,4,69] (.cond (.t 69) (SR [MV 72 1,OP 73 (.bJ 1 [.int .u8 0] 1 [(0,(.t 72))]),OP 74 (.build [.int .i64 0,.int .u8 0,.sl 0 [] .nil,.sl 0 [] .nil,.sl 0 [] .nil] [(0,(1,(.c (.int .i64 2)))),(3,(1,(.t 73)))]),SA 5 4 74,OP 5 (.mov (.c (.sl 0 [] .nil)))] [4,5] .ret) (SR [MV 76 1,OP 77 (.bin .eql (.t 76) (.c (.int .u8 91))),MV 75 77] [1,4,75] (.cond (.t 75) (SR [OP 78 (.build [.int .i64 0,.int .u8 0,.sl 0 [] .nil,.sl 0 [] .nil,.sl 0 [] .nil] [(0,(1,(.c (.int .i64 4))))]),SA 5 4 78,OP 5 (.mov (.c (.sl 0 [] .nil)))] [4,5] .ret) (SR [MV 80 1,OP 81 (.bin .eql (.t 80) (.c (.int .u8 93))),MV 82 81,MG 83 1 82 false,OG 84 (.bin .eql (.t 83) (.c (.int .u8 80))) 82 false,OP 85 (.pick (.t 82) (.c (.bool true)) (.t 84)),MV 86 85,MG 87 1 86 false,OG 88 (.bin .eql (.t 87) (.c (.int .u8 88))) 86 false,OP 89 (.pick (.t 86) (.c (.bool true)) (.t 88)),MV 90 89,MG 91 1 90 false,OG 92 (.bin .eql (.t 91) (.c (.int .u8 94))) 90 false,OP 93 (.pick (.t 90) (.c (.bool true)) (.t 92)),MV 94 93,MG 95 1 94 false,OG 96 (.bin .eql (.t 95) (.c (.int .u8 95))) 94 false,OP 97 (.pick (.t 94) (.c (.bool true)) (.t 96)),MV 79 97] [1,4,79] (.cond (.t 79) (SR [OP 98 (.build [.int .i64 0,.int .u8 0,.sl 0 [] .nil,.sl 0 [] .nil,.sl 0 [] .nil] [(0,(1,(.c (.int .i64 7))))]),SA 5 4 98,OP 5 (.mov (.c (.sl 0 [] .nil)))] [4,5] .ret) .skip))))))) (SR [OP 99 (.build [.int .i64 0,.int .u8 0,.sl 0 [] .nil,.sl 0 [] .nil,.sl 0 [] .nil] []),MV 100 1,OP 101 (.build [.int .i64 0,.int .i32 0,.int .u8 0,.int .u8 0,.sl 0 [] .nil,.sl 0 [] .nil] [(0,(1,(.c (.int .i64 2)))),(2,(1,(.t 100)))]),OP 102 (.bJ 6 [.int .i64 0,.int .i32 0,.int .u8 0,.int .u8 0,.sl 0 [] .nil,.sl 0 [] .nil] 1 [(0,(.t 101))]),SA 5 4 99,MV 5 102] [4,5] .ret)) (SR [BI 104 .eql 66 2,MV 103 104] [1,2,4,66,103] (.cond (.t 103) (.seq (SR [MV 105 1,OP 106 (.call 55 [.t 105]),OP 107 (.un .not (.t 106))] [1,2,4,107] (.cond (.t 107) (.seq (.cK (.take (OP 108 (.build [.int .i64 0,.int .u8 0,.sl 0 [] .nil,.sl 0 [] .nil,.sl 0 [] .nil] [])) [] (.take (MV 109 1) [] (.take (FA 110 3 2) [] (.take (LD 111 110) [.t 4] (.take (OP 112 (.build [.int .i64 0,.int .i32 0,.int .u8 0,.int .u8 0,.sl 0 [] .nil,.sl 0 [] .nil] [(0,(1,(.c (.int .i64 2)))),(2,(1,(.t 109))),(5,(1,(.t 111)))])) [] (.alt (.op (OP 113 (.bJ 6 [.int .i64 0,.int .i32 0,.int .u8 0,.int .u8 0,.sl 0 [] .nil,.sl 0 [] .nil] 1 [(0,(.t 112))])) (.op (SA 5 4 108) (.take (MV 5 113) [] .done))) (.op (SA 5 4 108) (.op (OP 113 (.bJ 6 [.int .i64 0,.int .i32 0,.int .u8 0,.int .u8 0,.sl 0 [] .nil,.sl 0 [] .nil] 1 [(0,(.t 112))])) (.take (MV 5 113) [] .done))))))))) 0 [4,5]) .ret) .skip)) (.seq (SR [FA 114 3 2,LD 115 114,OP 116 (.len (.t 115)),BI 117 .geq 116 2] [1,2,4,117] (.cond (.t 117) (SR [OP 118 (.build [.int .i64 0,.int .u8 0,.sl 0 [] .nil,.sl 0 [] .nil,.sl 0 [] .nil] [(0,(1,(.c (.int .i64 3))))]),SA 5 4 118,OP 5 (.mov (.c (.sl 0 [] .nil)))] [4,5] .ret) .skip)) (SR [FA 119 3 2,LD 120 119,MV 121 1,OP 122 (.call 111 [.t 120,.t 121]),OP 123 (.build [.int .i64 0,.int .u8 0,.sl 0 [] .nil,.sl 0 [] .nil,.sl 0 [] .nil] [(0,(1,(.c (.int .i64 2)))),(3,(1,(.t 122)))]),SA 5 4 123,OP 5 (.mov (.c (.sl 0 [] .nil)))] [4,5] .ret))) (SR [BI 125 .eql 66 3,MV 124 125] [1,2,4,66,124] (.cond (.t 124) (.seq (SR [MV 126 1,OP 127 (.bin .geq (.t 126) (.c (.int .u8 48)))] [2,4,127] (.cond (.t 127) (SR [OP 128 (.build [.int .i64 0,.int .u8 0,.sl 0 [] .nil,.sl 0 [] .nil,.sl 0 [] .nil] []),SA 5 4 128,OP 5 (.mov (.c (.sl 0 [] .nil)))] [4,5] .ret) .skip)) (SR [LT 129 5 2,SA 5 4 129,OP 5 (.mov (.c (.sl 0 [] .nil)))] [4,5] .ret)) (SR [BI 131 .eql 66 6,MV 130 131] [1,2,4,130] (.cond (.t 130) (.seq (SR [MV 132 1,OP 133 (.bin .geq (.t 132) (.c (.int .u8 64)))] [2,4,133] (.cond (.t 133) (SR [OP 134 (.build [.int .i64 0,.int .u8 0,.sl 0 [] .nil,.sl 0 [] .nil,.sl 0 [] .nil] []),SA 5 4 134,OP 5 (.mov (.c (.sl 0 [] .nil)))] [4,5] .ret) .skip)) (SR [LT 135 5 2,SA 5 4 135,OP 5 (.mov (.c (.sl 0 [] .nil)))] [4,5] .ret)) .skip)))))))))) (SR [LT 136 5 2,MV 137 1,OP 138 (.call 112 [.t 136,.t 137]),OP 139 (.ext (.t 138) 0),OP 140 (.ext (.t 138) 1),SA 5 4 139,MV 5 140] [4,5] .ret)))),[.c 4 true 5,.t 5]⟩
theorem GZ:aK PG.P [⟨0,0,[1,2,4],[]⟩,⟨1,0,[1,2,4,8],[]⟩,⟨2,0,[4,5],[]⟩,⟨3,0,[1,2,4,16],[]⟩,⟨4,0,[4,5],[]⟩,⟨5,0,[1,2,4,20],[]⟩,⟨6,0,[1,4,25],[]⟩,⟨7,0,[4,5],[]⟩,⟨8,0,[1,4,31],[]⟩,⟨9,0,[4,5],[]⟩,⟨10,0,[4,6,7],[]⟩,⟨11,0,[4,5],[]⟩,⟨12,0,[1,2,4,42],[]⟩,⟨13,0,[2,4,47],[]⟩,⟨14,0,[4,5],[]⟩,⟨15,0,[4,5],[]⟩,⟨16,0,[1,2,4,50],[]⟩,⟨17,0,[4,5],[]⟩,⟨18,0,[1,2,4,57],[]⟩,⟨19,0,[4,5],[]⟩,⟨20,0,[1,2,4,61],[]⟩,⟨21,0,[4,5],[]⟩,⟨22,0,[1,2,4,66],[]⟩,⟨23,0,[1,2,4,66,67],[]⟩,⟨24,0,[1,4,69],[]⟩,⟨25,0,[4,5],[]⟩,⟨26,0,[1,4,75],[]⟩,⟨27,0,[4,5],[]⟩,⟨28,0,[1,4,79],[]⟩,⟨29,0,[4,5],[]⟩,⟨30,0,[4,5],[]⟩,⟨31,0,[1,2,4,66,103],[]⟩,⟨32,0,[1,2,4,107],[]⟩,⟨33,0,[4,5],[]⟩,⟨34,0,[1,2,4,117],[]⟩,⟨35,0,[4,5],[]⟩,⟨36,0,[4,5],[]⟩,⟨37,0,[1,2,4,66,124],[]⟩,⟨38,0,[2,4,127],[]⟩,⟨39,0,[4,5],[]⟩,⟨40,0,[4,5],[]⟩,⟨41,0,[1,2,4,130],[]⟩,⟨42,0,[2,4,133],[]⟩,⟨43,0,[4,5],[]⟩,⟨44,0,[4,5],[]⟩,⟨45,0,[4,5],[]⟩] 70=some wF:=by kernel_rfl
def r7F (p:Pa)(b:Int):Pa × List Ac:=
 if b=24∨b=26 then (pa0 0,[])
 else if b=27 then (pa0 1,[])
 else if p.m=0 then (if b<32 then (pa0 0,[⟨1,0,b,0,none,none⟩]) else if b=127 then (pa0 0,[]) else (⟨0,0,[],[],(cX [] b).1⟩,(cX [] b).2.map prF))
 else if p.m=7 then (if b=7 then (pa0 0,[]) else (p,[]))
 else if b<32 then (p,[⟨1,0,b,0,none,none⟩])
 else if b=127 then (p,[])
 else if 128≤b then (pa0 0,[])
 else if p.m=1 then iY b
 else if p.m=2 then (if de b=false then (pa0 0,[⟨2,0,b,0,none,some p.I⟩]) else if 2≤(p.I.length:Int) then (pa0 3,[]) else (⟨2,0,[],p.I++ [b],[]⟩,[]))
 else if p.m=3 then (if 48≤b then (pa0 0,[]) else (p,[]))
 else if p.m=6 then (if 64≤b then (pa0 0,[]) else (p,[]))
 else kC p b
theorem Uv {p:Pa}{b:Int}(hp:dg p)(hb:0≤b∧b≤255):az PG 70 [paD p,.int .u8 b] fun n r os=>r=(paF (r7F p b)).1∧os=[]:=by
 obtain ⟨m,pr,P,I,U⟩:=p
 have hp0:=hp
 obtain ⟨h1,h2,h3,h4,h5,h6,h7⟩:=hp
 simp only at h1 h2 h3 h4 h5 h6 h7
 refine az.iI (res:=fun n=>paF (r7F ⟨m,pr,P,I,U⟩ b)) WH GZ (by simp [wF]) fun n=>?_
 unfold wF
 dsimp only [paD]
 have e0:cX [] b=cz [] b:=pq (fF _) hb
 have hR0:=zz (fF .u8) hb (by simp)
 have hl0:=nc [] b
 have hK0:inK .i32 (cX [] b).2:=by rw [e0];exact Qa (by omega) fun x hx=>by have:=hR0 x hx;omega
 have hl1:(cX [] b).2.length≤1000:=by rw [e0];omega
 have ht4:List.take (cX [] b).2.length ((cX [] b).2.map prF)=(cX [] b).2.map prF:=List.take_of_length_le (by simp)
 clear e0 hR0 hl0
 simp -implicitDefEqProofs -dsimp only [NZ,HZ,Mf,DF,Mg,List.length_map,Nat.le_refl,Oa,tM,xI,mX,ji,wW,mj,gx,oD,qV,aM,List.length_set,List.take_length,yq,tI,gN,jn,jA,vcR,↓an,↓ak,if_true,if_false,implies_true,simprocAttr,ne_eq,exists_eq_left,exists_eq_left',Function.comp_apply]
 have hi:aD .i64 (.sl 1 (af .i64 P) .any):=aQ (.inl rfl) h1
 have ht3:List.take (I.length+1) (I++ [b])=I++ [b]:=List.take_of_length_le (by simp)
 simp only [ht3,ht4]
 clear h7 ht3 ht4
 simp only [oG]
 (repeat' (first | with_reducible exact Or.inl rfl | intro _ | (with_reducible apply And.intro)))
 all_goals first
  | exact .inl rfl | exact .inr rfl | exact .inr ⟨rfl,trivial⟩
  | trivial
  | assumption
  | omega
  | exact rfl
  | (dsimp only [r7F,iY];(repeat (first | rw [if_pos (by first | omega | assumption | exact Or.inl (by assumption) | exact Or.inr (by assumption))] | rw [if_neg (by first | omega | exact Bool.eq_false_iff.1 (by assumption) | exact Bool.eq_true_imp_not_false (by assumption) | assumption)]));first | exact fP _ | rfl | (simp [paF,paR,paD,pa0,jF,dj,cF,dm,dw,cV,eV,eU,bQ,bk];done))
  | (rename_i hh;exact (h1.2 _ hh).1)
  | (rename_i hh;exact (h1.2 _ hh).2)
  | (rename_i hh;exact (h2.2 _ hh).1)
  | (rename_i hh;exact (h2.2 _ hh).2)
  | (rename_i hh;exact (h3.2 _ hh).1)
  | (rename_i hh;exact (h3.2 _ hh).2)
  | (show List.length _≤_;dsimp only;omega)
  | decide
  | (dsimp only [r7F,iY];(repeat (first | rw [if_pos (by first | omega | assumption | exact Or.inl (by assumption) | exact Or.inr (by assumption))] | rw [if_neg (by first | omega | exact Bool.eq_false_iff.1 (by assumption) | exact Bool.eq_true_imp_not_false (by assumption) | assumption)]));(simp [paF,paR,paD,pa0,jF,mI,dj,cF,dm,dw,cV,eV,eU,bQ,bk, *];done))
  | (simp [*];done)
  | skip
 exact ⟨hp0,by omega,by omega⟩
theorem UI (p:Pa)(b:Int)(hp:dg p)(hb:0≤b∧b≤255):(r7F p b).2.length≤2:=by
 have e0:cX [] b=cz [] b:=pq (fF _) hb
 have h1:=nc [] b
 unfold r7F iY kC jF
 rw [e0]
 simp only [apply_ite Prod.snd,apply_ite List.length,List.length_map,List.length_nil,List.length_cons]
 repeat' (first | apply PX | exact h1 | omega)
def qP (p:Pa)(b:Int):Prop:=dg p∧0≤b∧b≤255
def Mo:=DK r7F qP
theorem RX (args:List DV)(s:aS)(hs:Mo args=some s)(hp:s.pre):az PG 70 args fun n r os=>r=(s.res n).1∧os=(s.res n).2:=
 UQ (g:=r7F) (q:=qP) (fun p b h=>Uv h.1 h.2) args s hs hp
def T32:FL:=(70,Mo)::T31
theorem aaZ:FOk PG (tab T32):=FOk.cons WH RX
theorem HY (args:List DV):tab T32 70 args=(DK r7F qP args).map .o:=au _
theorem DE (args:List DV):tab T32 68 args=(lV args).map .o:=au _
theorem DD (args:List DV):tab T32 69 args=(jV args).map .o:=au _
theorem Me (args:List DV):tab T32 67 args=(lN args).map .o:=au _
noncomputable def wJ:RFn:=⟨2,75,(SR [OP 2 (.box 5 (.t 0)),OP 4 (.alloc [.int .i64 0,.int .u8 0,.sl 0 [] .nil,.sl 0 [] .nil,.sl 0 [] .nil]),OP 5 (.mov (.c (.sl 0 [] .nil)))] [1,2,4] (SR [OP 6 (.mov (.c (.sl 0 [] .nil)))] [1,2,4,6] (.seq (SR [FA 11 0 2,LD 12 11,BI 13 .eql 12 0,MV 14 13,FG 15 4 2 14 true,LG 16 15 14 true,OG 17 (.len (.t 16)) 14 true,OG 18 (.bin .gtr (.t 17) (.c (.int .i64 0))) 14 true,OP 19 (.pick (.t 14) (.t 18) (.c (.bool false)))] [1,2,4,6,19] (.cond (.t 19) (SR [FA 21 4 2,LD 22 21,MV 23 1,OP 24 (.call 67 [.t 22,.t 23]),MV 20 24,OP 25 (.ext (.t 20) 0),OP 26 (.ext (.t 20) 1),MV 7 25,MV 8 26] [1,2,4,6,7,8] (.seq (SR [MV 27 1,OP 28 (.bin .geq (.t 27) (.c (.int .u8 128))),MV 29 28,MG 30 8 29 true,OG 31 (.len (.t 30)) 29 true,OG 32 (.bin .eql (.t 31) (.c (.int .i64 0))) 29 true,MG 33 32 29 true,MG 34 8 33 false,OG 35 (.aT 1 (.t 34) (.c (.int .i64 0))) 33 false,LG 36 35 33 false,OG 37 (.bin .neq (.t 36) (.c (.int .i32 65533))) 33 false,OG 38 (.pick (.t 33) (.c (.bool true)) (.t 37)) 29 true,MG 39 38 29 true,MG 40 8 39 false,OG 41 (.len (.t 40)) 39 false,OG 42 (.bin .eql (.t 41) (.c (.int .i64 1))) 39 false,MG 43 42 39 false,MG 44 7 43 true,OG 45 (.len (.t 44)) 43 true,OG 46 (.bin .eql (.t 45) (.c (.int .i64 0))) 43 true,OG 47 (.pick (.t 43) (.t 46) (.c (.bool false))) 39 false,MG 48 47 39 false,FG 49 4 2 48 true,LG 50 49 48 true,MG 51 1 48 true,OG 52 (.call 68 [.t 50,.t 51]) 48 true,OG 53 (.pick (.t 48) (.t 52) (.c (.bool false))) 39 false,OG 54 (.pick (.t 39) (.c (.bool true)) (.t 53)) 29 true,OP 55 (.pick (.t 29) (.t 54) (.c (.bool false)))] [1,2,4,6,7,8,55] (.cond (.t 55) (SR [MV 56 7,OP 57 (.build [.int .i64 0,.int .u8 0,.sl 0 [] .nil,.sl 0 [] .nil,.sl 0 [] .nil] [(4,(1,(.t 56)))]),MV 58 8,OP 59 (.call 69 [.t 58]),SA 5 4 57,MV 5 59] [4,5] .ret) .skip)) (SR [MV 60 6,OP 61 (.build [.int .i64 0,.int .i32 0,.int .u8 0,.int .u8 0,.sl 0 [] .nil,.sl 0 [] .nil] [(0,(1,(.c (.int .i64 0)))),(1,(1,(.c (.int .i32 65533))))]),OP 62 (.bJ 6 [.int .i64 0,.int .i32 0,.int .u8 0,.int .u8 0,.sl 0 [] .nil,.sl 0 [] .nil] 1 [(0,(.t 61))]),OP 63 (.append 6 64 (.t 60) (.t 62)),MV 6 63] [1,2,4,6] (.reg [FA 64 4 2,NP (.store 1 (.t 64) (.c (.sl 0 [] .nil)))] 0 [1,2,4,6])))) .skip)) (SR [LT 66 5 2,MV 67 1,OP 68 (.call 70 [.t 66,.t 67]),MV 65 68,OP 69 (.ext (.t 65) 0),OP 70 (.ext (.t 65) 1),OP 9 (.alloc [.int .i64 0,.int .u8 0,.sl 0 [] .nil,.sl 0 [] .nil,.sl 0 [] .nil]),SA 5 9 69,MV 10 70] [4,6,9,10] (.seq (.cK (.take (MV 72 6) [] (.take (LT 71 5 9) [.t 72] (.take (MV 73 10) [] (.op (OP 74 (.append 6 64 (.t 72) (.t 73))) (.op (SA 5 4 71) (.take (MV 5 74) [] .done)))))) 0 [4,5]) .ret))))),[.c 4 true 5,.t 5]⟩
theorem Hg:aK PG.P [⟨0,0,[1,2,4],[]⟩,⟨1,0,[1,2,4,6],[]⟩,⟨2,0,[1,2,4,6,19],[]⟩,⟨3,0,[1,2,4,6,7,8],[]⟩,⟨4,0,[1,2,4,6,7,8,55],[]⟩,⟨5,0,[4,5],[]⟩,⟨6,0,[1,2,4,6],[]⟩,⟨7,0,[1,2,4,6],[]⟩,⟨8,0,[4,6,9,10],[]⟩,⟨9,0,[4,5],[]⟩] 35=some wJ:=by kernel_rfl
def ua (p:Pa)(b:Int):Prop:=128≤b∧((cX p.U b).2.length=0∨(cX p.U b).2.getD 0 0≠65533∨((cX p.U b).2.length=1∧(cX p.U b).1.length=0∧gV p.U b=true))
instance (p:Pa) (b:Int):Decidable (ua p b):=by unfold ua;infer_instance
def gR (p:Pa)(b:Int):Pa × List Ac:=
 if p.m=0∧0<p.U.length then
  if ua p b then (⟨0,0,[],[],(cX p.U b).1⟩,(cX p.U b).2.map prF)
  else ((r7F { p with U:=[]} b).1,prF 65533::(r7F { p with U:=[]} b).2)
 else r7F p b
theorem UH {p:Pa}{b:Int}(hp:dg p)(hb:0≤b∧b≤255):az PG 35 [paD p,.int .u8 b] fun n r os=>r=(paF (gR p b)).1∧os=[]:=by
 obtain ⟨m,pr,P,I,U⟩:=p
 have hp0:=hp
 obtain ⟨h1,h2,h3,h4,h5,h6,h7⟩:=hp
 simp only at h1 h2 h3 h4 h5 h6 h7
 refine az.iI (res:=fun n=>paF (gR ⟨m,pr,P,I,U⟩ b)) aaZ Hg (by simp [wJ]) fun n=>?_
 unfold wJ
 dsimp only [paD]
 have e0:cX U b=cz U b:=pq h3 hb
 have hR0:=zz h3 hb (by omega)
 have hl0:=nc U b
 have hK0:inK .i32 (cX U b).2:=by rw [e0];exact Qa (by omega) fun x hx=>by have:=hR0 x hx;omega
 have hl1:(cX U b).2.length≤1000:=by rw [e0];omega
 have ht4:List.take (cX U b).2.length ((cX U b).2.map prF)=(cX U b).2.map prF:=List.take_of_length_le (by simp)
 have hl2:=UI _ b hp0 hb
 have hp1:dg ⟨m,pr,P,I,[]⟩:=⟨h1,h2,fF _,h4,h5,by simp,h7⟩
 have hl3:=UI _ b hp1 hb
 simp -implicitDefEqProofs -dsimp only [HY,DE,DD,Me,List.length_map,Nat.le_refl,Oa,qw,mX,ji,wW,mj,gx,oD,qV,aM,Vs,Qf,DU,List.length_set,List.take_length,yq,tI,gN,jn,jA,vcR,↓an,↓ak,if_true,if_false,implies_true,simprocAttr,ne_eq,exists_eq_left,exists_eq_left',Function.comp_apply]
 have q1:qP ⟨m,pr,P,I,U⟩ b:=⟨hp0,hb⟩
 have q2:qP ⟨m,pr,P,I,[]⟩ b:=⟨hp1,hb⟩
 simp only [ht4]
 have fA:m=0→0<U.length→ua ⟨m,pr,P,I,U⟩ b→gR ⟨m,pr,P,I,U⟩ b=(⟨0,0,[],[],(cX U b).1⟩,(cX U b).2.map prF):=fun h1 h2 h3=>by
  unfold gR;rw [if_pos ⟨h1,h2⟩,if_pos h3]
 have fB:m=0→0<U.length→¬ua ⟨m,pr,P,I,U⟩ b→gR ⟨m,pr,P,I,U⟩ b=((r7F ⟨m,pr,P,I,[]⟩ b).1,prF 65533::(r7F ⟨m,pr,P,I,[]⟩ b).2):=fun h1 h2 h3=>by
  unfold gR;rw [if_pos ⟨h1,h2⟩,if_neg h3]
 have fC:¬(m=0∧0<U.length)→gR ⟨m,pr,P,I,U⟩ b=r7F ⟨m,pr,P,I,U⟩ b:=fun h1=>by
  unfold gR;rw [if_neg h1]
 have hk:ua ⟨m,pr,P,I,U⟩ b↔(128≤b∧((cX U b).2.length=0∨(cX U b).2.getD 0 0≠65533∨((cX U b).2.length=1∧(cX U b).1.length=0∧gV U b=true))):=Iff.rfl
 generalize hX:gR ⟨m,pr,P,I,U⟩ b=X at *
 generalize r7F ⟨m,pr,P,I,U⟩ b=X1 at *
 generalize r7F ⟨m,pr,P,I,[]⟩ b=X2 at *
 clear h7 hR0 e0 hl0 ht4 hp0 hp1
 cases hfm:gV U b <;> simp only [iN,gz] <;> rw [hfm] at hk <;> simp only [Bool.false_eq_true,and_false,or_false,and_true] at hk
 all_goals (repeat' (first | intro _ | (with_reducible apply And.intro)))
 all_goals first
  | assumption
  | omega
  | exact rfl
  | (rw [fA (by omega) (by omega) (hk.2 (by omega))];simp [paF,paR,paD,dj,cF,dm,dw,cV,eV,eU,bQ,bk];done)
  | (rw [fB (by omega) (by omega) (fun h=>by have:=hk.1 h;omega)];exact fP _)
  | (rw [fC (by omega)];exact fP _)
def jy:List DV→Option aS
 | [a,.lit v]=>some ⟨aD .u8 a∧v=.func (.func 85) #[] #[],fun n=>(.int .i64 (zo (aF a)),[])⟩
 | _=>none
theorem CT (a:DV)(v:Value):jy [a,.lit v]=some ⟨aD .u8 a∧v=.func (.func 85) #[] #[],fun n=>(.int .i64 (zo (aF a)),[])⟩:=au _
theorem CY (args:List DV)(s:aS)(hs:jy args=some s)(hp:s.pre):az PG 124 args fun n r os=>r=(s.res n).1∧os=(s.res n).2:=by
 unfold jy at hs
 split at hs
 ·obtain rfl:=sj hs
  obtain ⟨h1,rfl⟩:=hp
  obtain ⟨s0,k0,e1,h2,h3⟩:=aL h1
  have:=Gn (k:=k0) h2 h3
  rw [←e1] at this
  exact this
 ·cases hs
def aaY:FL:=(124,jy)::T30
theorem Rj:FOk PG (tab aaY):=FOk.cons N0 CY
theorem YZ (args:List DV):tab aaY 124 args=(jy args).map .o:=au _
noncomputable def jK:RFn:=⟨2,9,(SR [MB 4 false] [0,1] (SR [MV 5 0,MV 6 1,OP 7 (.call 124 [.t 5,.t 6]),BI 8 .geq 7 0,MV 4 8] [4] .ret)),[.t 4]⟩
theorem ri:aK PG.P [⟨0,0,[0,1],[]⟩,⟨1,0,[4],[]⟩] 84=some jK:=by kernel_rfl
theorem Ix {sz:Nat}{k:SK}{l:List Int}(hs:sz=1∨l=[])(hk:inK .u8 l) :
  az PG 84 [.sl sz (af .u8 l) k,.lit (.func (.func 85) #[] #[])] fun n r os=>r=.bool (decide (0≤zo l))∧os=[]:=by
 refine az.cY (res:=fun n=>(.bool (decide (0≤zo l)),[])) Rj ri (by simp [jK]) fun n=>?_
 unfold jK
 dsimp only
 have e1:aD .u8 (.sl sz (af .u8 l) k):=aQ hs hk
 simp -implicitDefEqProofs -dsimp only [YZ,CT,e1,aM,gN,jn,jA,vcR,↓an,↓ak,if_true,if_false,implies_true,simprocAttr,ne_eq,exists_eq_left,exists_eq_left',Function.comp_apply]
def kQ:List DV→Option aS
 | [a,.lit v]=>some ⟨aD .u8 a∧v=.func (.func 85) #[] #[],fun n=>(.bool (decide (0≤zo (aF a))),[])⟩
 | _=>none
theorem DJ (a:DV)(v:Value):kQ [a,.lit v]=some ⟨aD .u8 a∧v=.func (.func 85) #[] #[],fun n=>(.bool (decide (0≤zo (aF a))),[])⟩:=au _
theorem Gp (args:List DV)(s:aS)(hs:kQ args=some s)(hp:s.pre):az PG 84 args fun n r os=>r=(s.res n).1∧os=(s.res n).2:=by
 unfold kQ at hs
 split at hs
 ·obtain rfl:=sj hs
  obtain ⟨h1,rfl⟩:=hp
  obtain ⟨s0,k0,e1,h2,h3⟩:=aL h1
  have:=Ix (k:=k0) h2 h3
  rw [←e1] at this
  exact this
 ·cases hs
def aaX:FL:=(84,kQ)::aaY
theorem Ri:FOk PG (tab aaX):=FOk.cons Rj Gp
theorem YY (args:List DV):tab aaX 84 args=(kQ args).map .o:=au _
def lH (l:List Int):Bool:=decide (1≤l.length) && decide (l.length≤2) && l.all de
theorem Ve (l:List Int):decide (0≤zo l)=!l.all de:=by
 unfold zo
 cases h:l.findIdx? (fun b=>!de b) with
 | none=>
  rw [List.findIdx?_eq_none_iff] at h
  have:l.all de=true:=List.all_eq_true.2 fun x hx=>by simpa using h x hx
  rw [this];rfl
 | some i=>
  rw [List.findIdx?_eq_some_iff_getElem] at h
  obtain ⟨h1,h2,_⟩:=h
  have:l.all de=false:=by
   rw [List.all_eq_false]
   exact ⟨l[i],List.getElem_mem _,by simpa using h2⟩
  rw [this]
  simp
noncomputable def sO:RFn:=⟨1,16,(SR [MB 2 false] [0] (SR [MV 3 0,OP 4 (.len (.t 3)),BI 5 .geq 4 1,MV 6 5,MG 7 0 6 true,OG 8 (.len (.t 7)) 6 true,OG 9 (.bin .leq (.t 8) (.c (.int .i64 2))) 6 true,OP 10 (.pick (.t 6) (.t 9) (.c (.bool false))),MV 11 10,MG 12 0 11 true,OG 13 (.call 84 [.t 12,(.c (.lit (.func (.func 85) #[] #[])))]) 11 true,OG 14 (.un .not (.t 13)) 11 true,OP 15 (.pick (.t 11) (.t 14) (.c (.bool false))),MV 2 15] [2] .ret)),[.t 2]⟩
theorem De:aK PG.P [⟨0,0,[0],[]⟩,⟨1,0,[2],[]⟩] 51=some sO:=by kernel_rfl
theorem RE {jB:Nat}{k_l:SK}{l:List Int}(Bz:jB=1∨l=[])(HG:inK .u8 l) :
  az PG 51 [.sl jB (af .u8 l) k_l] fun n RR OO=>RR=((.bool (lH l),[]):DV × aj).1∧OO=((.bool (lH l),[]):DV × aj).2:=by
 refine az.cY (res:=fun n=>(.bool (lH l),[])) Ri De (by simp [sO]) fun n=>?_
 unfold sO
 dsimp only
 have e1:aD .u8 (.sl jB (af .u8 l) k_l):=aQ Bz HG
 simp -implicitDefEqProofs -dsimp only [YY,DJ,e1,aM,Ve,gN,jn,jA,vcR,↓an,↓ak,if_true,if_false,implies_true,simprocAttr,ne_eq,exists_eq_left,exists_eq_left',Function.comp_apply]
 unfold lH
 refine ⟨fun a=>⟨fun b=>?_,fun b=>?_⟩,fun a=>?_⟩
 ·rw [decide_eq_true (show 1≤l.length by omega),decide_eq_true (show l.length≤2 by omega)];simp
 ·rw [decide_eq_false (show ¬l.length≤2 by omega)];simp
 ·rw [decide_eq_false (show ¬1≤l.length by omega)];simp
def nS:List DV→Option aS
 | [a_l]=>some ⟨aD .u8 a_l∧True,fun n=>(.bool (lH (aF a_l)),[])⟩
 | _=>none
theorem ze (a_l:DV):nS [a_l]=some ⟨aD .u8 a_l∧True,fun n=>(.bool (lH (aF a_l)),[])⟩:=au _
theorem MA (args:List DV)(s:aS)(hs:nS args=some s)(hp:s.pre):az PG 51 args fun n r os=>r=(s.res n).1∧os=(s.res n).2:=by
 unfold nS at hs
 split at hs
 ·rename_i a_l
  obtain rfl:=sj hs
  obtain ⟨tr,hp⟩:=hp
  obtain ⟨MT,tg,tw,tv,tu⟩:=aL tr
  have this:=RE (k_l:=tg) tv tu
  rw [←tw] at this
  exact this
 ·cases hs
def T33:FL:=(51,nS)::aaX
theorem HX:FOk PG (tab T33):=FOk.cons Ri MA
theorem rW (args:List DV):tab T33 51 args=(nS args).map .o:=au _
theorem NY (args:List DV):tab T33 50 args=(gB args).map .o:=au _
def prA (p:Pa):Prop:=0≤p.m∧p.m≤7∧(p.U.length=0∨(p.m=0∧cO p.U=true))∧((p.m=4∨p.m=5)∨(p.pr=0∧p.P.length=0))∧p.P.length≤16∧(p.pr=0∨(60≤p.pr∧p.pr≤63))
def prB (p:Pa):Prop:=∀n∈p.P,0≤n∧n≤65535
def prC (p:Pa):Bool:=if p.m=2∨p.m=5 then lH p.I else decide (p.I.length=0)
instance (p:Pa):Decidable (prA p):=by unfold prA;infer_instance
instance (p:Pa):Decidable (prB p):=by unfold prB;infer_instance
def iz (p:Pa):Bool:=decide (prA p) && (decide (prB p) && prC p)
theorem UP {p:Pa}(h:¬prA p):false=iz p:=by unfold iz;rw [decide_eq_false h];rfl
theorem JI {p:Pa}(h:¬prB p):false=iz p:=by unfold iz;rw [decide_eq_false h];simp
theorem So {p:Pa}(h:prA p)(h2:prB p):iz p=prC p:=by unfold iz;rw [decide_eq_true h,decide_eq_true h2];simp
theorem KK {l:List Int}{i:Nat}(h:i<l.length):l.getD i 0∈l:=by
 rw [List.getD_eq_getElem?_getD,List.getElem?_eq_getElem h]
 exact List.getElem_mem _
theorem Wp {l:List Int}{q:Int→Prop}(h:∀j,j<l.length→q (l.getD j 0)):∀x∈l,q x:=fun x hx=>by
 obtain ⟨j,hj,rfl⟩:=List.getElem_of_mem hx
 have:=h j hj
 rwa [List.getD_eq_getElem?_getD,List.getElem?_eq_getElem hj] at this
theorem Pw {m pr:Int}{P I U:List Int}(h:prB ⟨m,pr,P,I,U⟩){i:Nat}(hi:i<P.length):0≤P.getD i 0∧P.getD i 0≤65535:=h _ (KK hi)
theorem ZS {m pr:Int}{P I U:List Int}(h:∀j,j<P.length→0≤P.getD j 0∧P.getD j 0≤65535):prB ⟨m,pr,P,I,U⟩:=fun x hx=>Wp (q:=fun x=>0≤x∧x≤65535) h x hx
theorem ym (l:List Int):lH l=true↔1≤l.length∧l.length≤2∧∀x∈l,de x=true:=by
 unfold lH
 rw [Bool.and_eq_true,Bool.and_eq_true,decide_eq_true_eq,decide_eq_true_eq,List.all_eq_true,and_assoc]
noncomputable def oh:RC:=(SR [BT 77 .lss 76 75] [1,74,75,76,77] (.seq (.cond (.t 77) .skip (.ext 0)) (.seq (.blk 1 (SR [OP 78 (.aT 1 (.t 74) (.t 76)),LD 79 78,MV 5 79] [1,5,74,75,76] (SR [MV 80 5,BI 81 .lss 80 0,MV 82 81,MG 83 5 82 false,OG 84 (.bin .gtr (.t 83) (.c (.int .i64 65535))) 82 false,OP 85 (.pick (.t 82) (.c (.bool true)) (.t 84))] [1,74,75,76,85] (.cond (.t 85) (SR [MB 2 false] [2] .ret) .skip)))) (.reg [BI 86 .add 76 1,MV 76 86] 0 [1,74,75,76]))))
noncomputable def wm:RFn:=⟨1,102,(SR [OP 1 (.box 5 (.t 0)),MB 2 false] [1] (.seq (SR [FA 6 0 1,LD 7 6,BI 8 .lss 7 0,MV 9 8,FG 10 0 1 9 false,LG 11 10 9 false,OG 12 (.bin .gtr (.t 11) (.c (.int .i64 7))) 9 false,OP 13 (.pick (.t 9) (.c (.bool true)) (.t 12)),MV 14 13,FG 15 4 1 14 false,LG 16 15 14 false,OG 17 (.len (.t 16)) 14 false,OG 18 (.bin .gtr (.t 17) (.c (.int .i64 0))) 14 false,MG 19 18 14 false,FG 20 0 1 19 true,LG 21 20 19 true,OG 22 (.bin .neq (.t 21) (.c (.int .i64 0))) 19 true,MG 23 22 19 true,FG 24 4 1 23 false,LG 25 24 23 false,OG 26 (.call 50 [.t 25]) 23 false,OG 27 (.un .not (.t 26)) 23 false,OG 28 (.pick (.t 23) (.c (.bool true)) (.t 27)) 19 true,OG 29 (.pick (.t 19) (.t 28) (.c (.bool false))) 14 false,OP 30 (.pick (.t 14) (.c (.bool true)) (.t 29))] [1,30] (.cond (.t 30) (SR [MB 2 false] [2] .ret) .skip)) (SR [FA 31 0 1,LD 32 31,BI 33 .eql 32 4,MV 34 33,FG 35 0 1 34 false,LG 36 35 34 false,OG 37 (.bin .eql (.t 36) (.c (.int .i64 5))) 34 false,OP 38 (.pick (.t 34) (.c (.bool true)) (.t 37)),MV 3 38] [1,3] (.seq (SR [MV 39 3,OP 40 (.un .not (.t 39)),MV 41 40,FG 42 1 1 41 true,LG 43 42 41 true,OG 44 (.bin .neq (.t 43) (.c (.int .u8 0))) 41 true,MG 45 44 41 true,FG 46 2 1 45 false,LG 47 46 45 false,OG 48 (.len (.t 47)) 45 false,OG 49 (.bin .gtr (.t 48) (.c (.int .i64 0))) 45 false,OG 50 (.pick (.t 45) (.c (.bool true)) (.t 49)) 41 true,OP 51 (.pick (.t 41) (.t 50) (.c (.bool false))),MV 52 51,FG 53 2 1 52 false,LG 54 53 52 false,OG 55 (.len (.t 54)) 52 false,OG 56 (.bin .gtr (.t 55) (.c (.int .i64 16))) 52 false,OP 57 (.pick (.t 52) (.c (.bool true)) (.t 56)),MV 58 57,FG 59 1 1 58 false,LG 60 59 58 false,OG 61 (.bin .neq (.t 60) (.c (.int .u8 0))) 58 false,MG 62 61 58 false,FG 63 1 1 62 true,LG 64 63 62 true,OG 65 (.bin .lss (.t 64) (.c (.int .u8 60))) 62 true,MG 66 65 62 true,FG 67 1 1 66 false,LG 68 67 66 false,OG 69 (.bin .gtr (.t 68) (.c (.int .u8 63))) 66 false,OG 70 (.pick (.t 66) (.c (.bool true)) (.t 69)) 62 true,OG 71 (.pick (.t 62) (.t 70) (.c (.bool false))) 58 false,OP 72 (.pick (.t 58) (.c (.bool true)) (.t 71))] [1,72] (.cond (.t 72) (SR [MB 2 false] [2] .ret) .skip)) (.seq (SR [FA 73 2 1,LD 74 73,OP 75 (.len (.t 74)),OP 76 (.mov (.c (.int .i64 0)))] [1,74,75,76] (.blk 0 (.loop oh))) (.seq (SR [FA 87 0 1,LD 88 87,BI 89 .eql 88 2,MV 90 89,FG 91 0 1 90 false,LG 92 91 90 false,OG 93 (.bin .eql (.t 92) (.c (.int .i64 5))) 90 false,OP 94 (.pick (.t 90) (.c (.bool true)) (.t 93))] [1,94] (.cond (.t 94) (SR [FA 95 3 1,LD 96 95,OP 97 (.call 51 [.t 96]),MV 2 97] [2] .ret) .skip)) (SR [FA 98 3 1,LD 99 98,OP 100 (.len (.t 99)),BI 101 .eql 100 0,MV 2 101] [2] .ret))))))),[.t 2]⟩
theorem GM:aK PG.P [⟨0,0,[1],[]⟩,⟨1,0,[1,30],[]⟩,⟨2,0,[2],[]⟩,⟨3,0,[1,3],[]⟩,⟨4,0,[1,72],[]⟩,⟨5,0,[2],[]⟩,⟨6,0,[1,74,75,76],[]⟩,⟨7,0,[1,74,75,76,77],[]⟩,⟨8,0,[1,5,74,75,76],[]⟩,⟨9,0,[1,74,75,76,85],[]⟩,⟨10,0,[2],[]⟩,⟨11,0,[1,74,75,76],[]⟩,⟨12,0,[1,94],[]⟩,⟨13,0,[2],[]⟩,⟨14,0,[2],[]⟩] 26=some wm:=by kernel_rfl
theorem TG {p:Pa}(h1:inK .i64 p.P)(h2:inK .u8 p.I)(h3:inK .u8 p.U)(hl:p.P.length≤1000∧p.I.length≤1000∧p.U.length≤1000):az PG 26 [paD p] fun n r os=>r=.bool (iz p)∧os=[]:=by
 obtain ⟨m,pr,P,I,U⟩:=p
 simp only at h1 h2 h3 hl
 refine az.cY (res:=fun n=>(.bool (iz ⟨m,pr,P,I,U⟩),[])) HX GM (by simp [wm]) fun n=>?_
 unfold wm
 dsimp only [paD]
 simp -implicitDefEqProofs -dsimp only [rW,NY,ze,di,gx,aM,gN,jn,jA,vcR,↓an,↓ak,if_true,if_false,implies_true,simprocAttr,ne_eq,exists_eq_left,exists_eq_left',Function.comp_apply]
 generalize hG:bp PG 102 oh _ _=G
 have hF:¬prA ⟨m,pr,P,I,U⟩→false=iz ⟨m,pr,P,I,U⟩:=UP
 have hGt:prA ⟨m,pr,P,I,U⟩→G:=fun hA=>by
  rw [←hG];clear hG
  refine bp.inv HX (S:=fun i:Nat=>⟨[(1,.ptr n 0 0),(74,.sl 1 (af .i64 P) .any),(75,.int .i64 P.length),(76,.int .i64 i)],List.replicate n none++ [some (.box [.int .i64 m,.int .u8 pr,.sl 1 (af .i64 P) .any,.sl 1 (af .u8 I) .any,.sl 1 (af .u8 U) .any])]⟩) (I:=fun i=>i≤P.length∧∀j,j<i→0≤P.getD j 0∧P.getD j 0≤65535) (μ:=fun i=>P.length-i) 0 ⟨by omega,by omega⟩ ?_ ?_
  ·simp -implicitDefEqProofs -dsimp only [gN,jn,jA,vcR,↓an,↓ak,if_true,if_false,implies_true,simprocAttr,ne_eq,exists_eq_left,exists_eq_left',Function.comp_apply]
  ·intro i ⟨hi,hv⟩
   unfold oh
   simp -implicitDefEqProofs -dsimp only [rW,ze,gx,aM,gN,jn,jA,vcR,↓an,↓ak,if_true,if_false,implies_true,simprocAttr,ne_eq,exists_eq_left,exists_eq_left',Function.comp_apply]
   refine ⟨fun h=>⟨⟨by omega,h⟩,by omega,fun h2=>JI fun hb=>?_,fun h2=>⟨fun h3=>JI fun hb=>?_,fun h3=>⟨i+1,by rw [aP] <;> omega,⟨by omega,fun j hj=>?_⟩,by omega⟩⟩⟩,fun h=>?_⟩
   ·have:=Pw hb (i:=i) (by omega);omega
   ·have:=Pw hb (i:=i) (by omega);omega
   ·by_cases hji:j=i
    ·subst hji;omega
    ·exact hv j (by omega)
   ·have hB:prB ⟨m,pr,P,I,U⟩:=ZS fun j hj=>hv j (by omega)
    rw [So hA hB]
    refine ⟨fun e=>⟨h2, ?_⟩,fun e=>⟨fun e2=>⟨h2, ?_⟩,fun e2=>?_⟩⟩
    ·unfold prC;rw [if_pos (.inl e)]
    ·unfold prC;rw [if_pos (.inr e2)]
    ·unfold prC;rw [if_neg (by simp only;omega)];congr 1;simp
 clear hG
 have hpr:prA ⟨m,pr,P,I,U⟩↔(0≤m∧m≤7∧(U.length=0∨(m=0∧cO U=true))∧((m=4∨m=5)∨(pr=0∧P.length=0))∧P.length≤16∧(pr=0∨(60≤pr∧pr≤63))):=Iff.rfl
 generalize (false=iz ⟨m,pr,P,I,U⟩)=FF at *
 cases hu:cO U <;> simp only [iN,gz] <;> rw [hu] at hpr <;> simp only [Bool.false_eq_true,and_false,or_false,and_true] at hpr
 all_goals (repeat' (first | intro _ | (with_reducible apply And.intro)))
 all_goals first
  | assumption
  | exact hF (fun h=>by have:=hpr.1 h;omega)
  | exact hGt (hpr.2 (by omega))
end Go.Proofs.YtjmnbpilnneonaaGreatDoor
