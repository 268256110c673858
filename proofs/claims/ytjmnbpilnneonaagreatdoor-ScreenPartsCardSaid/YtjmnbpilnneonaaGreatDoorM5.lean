/- Texts P20, P21, P22 in one. -/
import Derived.Test.YtjmnbpilnneonaaGreatDoorM4
import Derived.Test.YtjmnbpilnneonaaGreatDoorM3
set_option linter.unusedVariables false
set_option linter.unusedSimpArgs false
set_option maxRecDepth 10000
namespace Go.Proofs.YtjmnbpilnneonaaGreatDoor
open Go.RowKit
noncomputable def iA:RFn:=⟨1,8,(SR [OP 2 (.mov (.c (.sl 0 [] .nil)))] [0] (.seq (SR [MV 3 0,OP 4 (.jA false (.t 3) (.c (.sl 0 [] .nil)))] [0,4] (.cond (.t 4) (SR [OP 2 (.mov (.c (.sl 0 [] .nil)))] [2] .ret) .skip)) (SR [OP 5 (.bJ 1 [.int .i64 0] 0 []),MV 6 0,OP 7 (.append 1 8 (.t 5) (.t 6)),MV 2 7] [2] .ret))),[.t 2]⟩
theorem lI:aK PG.P [⟨0,0,[0],[]⟩,⟨1,0,[0,4],[]⟩,⟨2,0,[2],[]⟩,⟨3,0,[2],[]⟩] 57=some iA:=by kernel_rfl
noncomputable def AJ:RFn:=⟨1,5,(SR [OP 2 (.alloc [.int .i64 0,.int .u8 0,.sl 0 [] .nil,.sl 0 [] .nil,.sl 0 [] .nil])] [0,2] (SR [MV 3 0,OP 4 (.build [.int .i64 0,.int .u8 0,.sl 0 [] .nil,.sl 0 [] .nil,.sl 0 [] .nil] [(0,(1,(.t 3)))]),SA 5 2 4] [2] .ret)),[.c 2 true 5]⟩
theorem Jy:aK PG.P [⟨0,0,[0,2],[]⟩,⟨1,0,[2],[]⟩] 90=some AJ:=by kernel_rfl
noncomputable def wA:RFn:=⟨1,9,(SR [MB 2 false] [0] (SR [MV 3 0,OP 4 (.bin .geq (.t 3) (.c (.int .u8 32))),MV 5 4,MG 6 0 5 true,OG 7 (.bin .leq (.t 6) (.c (.int .u8 47))) 5 true,OP 8 (.pick (.t 5) (.t 7) (.c (.bool false))),MV 2 8] [2] .ret)),[.t 2]⟩
theorem GO:aK PG.P [⟨0,0,[0],[]⟩,⟨1,0,[2],[]⟩] 86=some wA:=by kernel_rfl
theorem NQ {sz:Nat}:az PG 57 [.sl sz [] .nil] fun n r os=>r=.sl 0 [] .nil∧os=[]:=by
 refine az.cY (res:=fun n=>(.sl 0 [] .nil,[])) FOk.nil lI (by simp [iA]) fun n=>?_
 unfold iA
 dsimp only
 simp -implicitDefEqProofs -dsimp only [vcR,↓an,↓ak,if_true,if_false,implies_true,simprocAttr,ne_eq,exists_eq_left,exists_eq_left',Function.comp_apply]
theorem NO {sz:Nat}{l:List Int}(hs:sz=1∨l=[])(hk:inK .i64 l)(hl:l.length≤1000000):az PG 57 [.sl sz (af .i64 l) .gk] fun n r os=>r=.own n 0 l.length∧os=[some (.arr 1 (af .i64 l))]:=by
 refine az.cY (res:=fun n=>(.own n 0 l.length,[some (.arr 1 (af .i64 l))])) FOk.nil lI (by simp [iA]) fun n=>?_
 unfold iA
 dsimp only
 simp -implicitDefEqProofs -dsimp only [vcR,↓an,↓ak,if_true,if_false,implies_true,simprocAttr,ne_eq,exists_eq_left,exists_eq_left',Function.comp_apply]
 exact ⟨hs.imp id fun h=>by simp [h,af],by omega,by omega⟩
theorem Wh {jF:Nat}{k_l:SK}{l:List Int}(BF:jF=1∨l=[])(HM:inK .i64 l)(hp:l.length≤1000000) :
  az PG 57 [.sl jF (af .i64 l) k_l] fun n r os=>r=.own n 0 l.length∧os=[some (.arr 1 (af .i64 l))]:=by
 refine az.oP (i:=0) rfl (fun h=>?_) ?_
 ·have hn:l=[]:=by simpa [af] using h
  subst hn
  exact NQ.zL
 ·exact NO BF HM hp
theorem Wf {jF:Nat}{k_l:SK}{l:List Int}(BF:jF=1∨l=[])(HM:inK .u8 l)(hp:l.length≤1000000) :
  az PG 58 [.sl jF (af .u8 l) k_l] fun n r os=>r=.own n 0 l.length∧os=[some (.arr 1 (af .u8 l))]:=by
 refine az.oP (i:=0) rfl (fun h=>?_) ?_
 ·have hn:l=[]:=by simpa [af] using h
  subst hn
  exact B9.zL
 ·exact Lp BF HM (by omega)
def mK:List DV→Option aS
 | [a_l]=>some ⟨aD .i64 a_l∧(aF a_l).length≤1000000,fun n=>(.own n 0 (aF a_l).length,[some (.arr 1 (af .i64 (aF a_l)))])⟩
 | _=>none
theorem ke (a_l:DV):mK [a_l]=some ⟨aD .i64 a_l∧(aF a_l).length≤1000000,fun n=>(.own n 0 (aF a_l).length,[some (.arr 1 (af .i64 (aF a_l)))])⟩:=au _
theorem S5 (args:List DV)(s:aS)(hs:mK args=some s)(hp:s.pre):az PG 57 args fun n r os=>r=(s.res n).1∧os=(s.res n).2:=by
 unfold mK at hs
 split at hs
 ·rename_i a_l
  obtain rfl:=sj hs
  obtain ⟨tC,hp⟩:=hp
  obtain ⟨M1,tv,tF,tE,tD⟩:=aL tC
  have this:=Wh (k_l:=tv) tE tD hp
  rw [←tF] at this
  exact this
 ·cases hs
def mJ:List DV→Option aS
 | [a_l]=>some ⟨aD .u8 a_l∧(aF a_l).length≤1000000,fun n=>(.own n 0 (aF a_l).length,[some (.arr 1 (af .u8 (aF a_l)))])⟩
 | _=>none
theorem j9 (a_l:DV):mJ [a_l]=some ⟨aD .u8 a_l∧(aF a_l).length≤1000000,fun n=>(.own n 0 (aF a_l).length,[some (.arr 1 (af .u8 (aF a_l)))])⟩:=au _
theorem S4 (args:List DV)(s:aS)(hs:mJ args=some s)(hp:s.pre):az PG 58 args fun n r os=>r=(s.res n).1∧os=(s.res n).2:=by
 unfold mJ at hs
 split at hs
 ·rename_i a_l
  obtain rfl:=sj hs
  obtain ⟨tC,hp⟩:=hp
  obtain ⟨M1,tv,tF,tE,tD⟩:=aL tC
  have this:=Wf (k_l:=tv) tE tD hp
  rw [←tF] at this
  exact this
 ·cases hs
def de (b:Int):Bool:=decide (32≤b) && decide (b≤47)
theorem TL {b:Int}(mM:0≤b∧b≤255) :
  az PG 86 [.int .u8 b] fun n RR OO=>RR=((.bool (de b),[]):DV × aj).1∧OO=((.bool (de b),[]):DV × aj).2:=by
 refine az.cY (res:=fun n=>(.bool (de b),[])) Od GO (by simp [wA]) fun n=>?_
 unfold wA
 dsimp only
 simp -implicitDefEqProofs -dsimp only [vcR,↓an,↓ak,if_true,if_false,implies_true,simprocAttr,ne_eq,exists_eq_left,exists_eq_left',Function.comp_apply]
 grind [de]
def jB:List DV→Option aS
 | [.int .u8 b]=>some ⟨(0≤b∧b≤255)∧True,fun n=>(.bool (de b),[])⟩
 | _=>none
theorem iq (b:Int):jB [.int .u8 b]=some ⟨(0≤b∧b≤255)∧True,fun n=>(.bool (de b),[])⟩:=au _
theorem RN (args:List DV)(s:aS)(hs:jB args=some s)(hp:s.pre):az PG 86 args fun n r os=>r=(s.res n).1∧os=(s.res n).2:=by
 unfold jB at hs
 split at hs
 ·rename_i b
  obtain rfl:=sj hs
  obtain ⟨mM,hp⟩:=hp
  have this:=TL mM
  exact this
 ·cases hs
theorem Xt {m:Int}(ac2:-9223372036854775808≤m∧m≤9223372036854775807) :
  az PG 90 [.int .i64 m] fun n RR OO=>RR=((.agg [.int .i64 m,.int .u8 0,.sl 0 [] .nil,.sl 0 [] .nil,.sl 0 [] .nil],[]):DV × aj).1∧OO=((.agg [.int .i64 m,.int .u8 0,.sl 0 [] .nil,.sl 0 [] .nil,.sl 0 [] .nil],[]):DV × aj).2:=by
 refine az.cY (res:=fun n=>(.agg [.int .i64 m,.int .u8 0,.sl 0 [] .nil,.sl 0 [] .nil,.sl 0 [] .nil],[])) Od Jy (by simp [AJ]) fun n=>?_
 unfold AJ
 dsimp only
 simp -implicitDefEqProofs -dsimp only [gR,vcR,↓an,↓ak,if_true,if_false,implies_true,simprocAttr,ne_eq,exists_eq_left,exists_eq_left',Function.comp_apply]
def m4:List DV→Option aS
 | [.int .i64 m]=>some ⟨(-9223372036854775808≤m∧m≤9223372036854775807)∧True,fun n=>(.agg [.int .i64 m,.int .u8 0,.sl 0 [] .nil,.sl 0 [] .nil,.sl 0 [] .nil],[])⟩
 | _=>none
theorem jY (m:Int):m4 [.int .i64 m]=some ⟨(-9223372036854775808≤m∧m≤9223372036854775807)∧True,fun n=>(.agg [.int .i64 m,.int .u8 0,.sl 0 [] .nil,.sl 0 [] .nil,.sl 0 [] .nil],[])⟩:=au _
theorem TK (args:List DV)(s:aS)(hs:m4 args=some s)(hp:s.pre):az PG 90 args fun n r os=>r=(s.res n).1∧os=(s.res n).2:=by
 unfold m4 at hs
 split at hs
 ·rename_i m
  obtain rfl:=sj hs
  obtain ⟨ac2,hp⟩:=hp
  have this:=Xt ac2
  exact this
 ·cases hs
def T20:FL:=(57,mK)::(58,mJ)::(86,jB)::(90,m4)::T16
theorem Oc:FOk PG (tab T20):=FOk.cons (FOk.cons (FOk.cons (FOk.cons (Od) TK) RN) S4) S5
theorem sC (args:List DV):tab T20 57 args=(mK args).map .o:=au _
theorem sB (args:List DV):tab T20 58 args=(mJ args).map .o:=au _
theorem su (args:List DV):tab T20 86 args=(jB args).map .o:=au _
theorem vK (args:List DV):tab T20 90 args=(m4 args).map .o:=au _
theorem vL (args:List DV):tab T20 67 args=(lR args).map .o:=au _
theorem vJ (args:List DV):tab T20 110 args=(m3 args).map .o:=au _
theorem qp (args:List DV):tab T20 54 args=(iI args).map .o:=au _
theorem za (args:List DV):tab T20 60 args=(nj args).map .o:=au _
theorem qo (args:List DV):tab T20 50 args=(gF args).map .o:=au _
theorem sA (args:List DV):tab T20 89 args=(jD args).map .o:=au _
theorem zc (args:List DV):tab T20 83 args=(oS args).map .o:=au _
theorem zb (args:List DV):tab T20 125 args=(oQ args).map .o:=au _
theorem CT (args:List DV):tab T20 87 args=(qE args).map .o:=au _
theorem ZP:type_of% (And.intro @sC <| And.intro @ke <| And.intro @sB <| And.intro @j9 <| And.intro @su <| And.intro @iq <| And.intro @vK <| And.intro @jY <| And.intro @vL <| And.intro @jn <| And.intro @vJ <| And.intro @jm <| And.intro @qp <| And.intro @e8 <| And.intro @za <| And.intro @ir <| And.intro @qo <| And.intro @di <| And.intro @sA <| And.intro @eO <| And.intro @zc <| And.intro @iw <| And.intro @zb <| And.intro @iu <| And.intro @CT <| @eH):=And.intro @sC <| And.intro @ke <| And.intro @sB <| And.intro @j9 <| And.intro @su <| And.intro @iq <| And.intro @vK <| And.intro @jY <| And.intro @vL <| And.intro @jn <| And.intro @vJ <| And.intro @jm <| And.intro @qp <| And.intro @e8 <| And.intro @za <| And.intro @ir <| And.intro @qo <| And.intro @di <| And.intro @sA <| And.intro @eO <| And.intro @zc <| And.intro @iw <| And.intro @zb <| And.intro @iu <| And.intro @CT <| @eH
structure Ac where
 k:Int
 r:Int
 b:Int
 p:Int
 ps:Option (List Int)
 is:Option (List Int)
def oSl (k:IntKind):Option (List Int)→DV
 | none=> .sl 0 [] .nil
 | some l=> .sl 1 (af k l) .any
def yT (a:Ac):List DV:=[.int .i64 a.k,.int .i32 a.r,.int .u8 a.b,.int .u8 a.p,oSl .i64 a.ps,oSl .u8 a.is]
def cu (l:List Ac):List (List DV):=l.map yT
theorem Mk (k r b p:Int):[[.int .i64 k,.int .i32 r,.int .u8 b,.int .u8 p,.sl 0 [] .nil,.sl 0 [] .nil]]=cu [⟨k,r,b,p,none,none⟩]:=au _
theorem Mj (k r b p:Int)(i:List Int):[[.int .i64 k,.int .i32 r,.int .u8 b,.int .u8 p,.sl 0 [] .nil,.sl 1 (af .u8 i) .any]]=cu [⟨k,r,b,p,none,some i⟩]:=au _
theorem Mi (k r b p:Int)(l i:List Int):[[.int .i64 k,.int .i32 r,.int .u8 b,.int .u8 p,.sl 1 (af .i64 l) .any,.sl 1 (af .u8 i) .any]]=cu [⟨k,r,b,p,some l,some i⟩]:=au _
theorem CL (a:Ac):[yT a]=cu [a]:=au _
theorem yQ (a:Ac)(row:List DV):(cu [a]).set 0 row=[row]:=au _
theorem yS (a:Ac)(l:List Ac):yT a::cu l=cu (a::l):=au _
theorem CM (a b:List Ac):cu a++cu b=cu (a++b):=by simp [cu]
theorem bQ:cu []=[]:=au _
theorem gE (a:List Ac):(cu a).length=a.length:=by simp [cu]
theorem yP (l:List Ac)(n:Nat):(cu l).take n=cu (l.take n):=by simp [cu,List.map_take]
theorem yR (l:List Ac)(n:Nat):(cu l).drop n=cu (l.drop n):=by simp [cu,List.map_drop]
theorem Gg (a:Ac):(yT a).length=6:=au _
theorem Gf (a:Ac):(yT a).all DV.one=true:=by
 obtain ⟨k,r,b,p,ps,is⟩:=a
 cases ps <;> cases is <;> rfl
theorem Vm (k:IntKind)(o:Option (List Int)):Cl (oSl k o):=by
 cases o with
 | none=>exact Cl.sl 0 [] .nil (by simp)
 | some l=>exact Cl.sl 1 _ .any (tT k l)
theorem Ge (l:List Ac):gJ (cu l)=True:=by
 refine eq_true fun row hrow c hc=>?_
 simp only [cu,List.mem_map] at hrow
 obtain ⟨a,_,rfl⟩:=hrow
 simp only [yT,List.mem_cons,List.not_mem_nil,or_false] at hc
 rcases hc with rfl | rfl | rfl | rfl | rfl | rfl
 ·exact Cl.int _ _
 ·exact Cl.int _ _
 ·exact Cl.int _ _
 ·exact Cl.int _ _
 ·exact Vm _ _
 ·exact Vm _ _
theorem tN:type_of% (And.intro @Mk <| And.intro @Mj <| And.intro @Mi <| And.intro @CL <| And.intro @yQ <| And.intro @yS <| And.intro @CM <| And.intro @bQ <| And.intro @gE <| And.intro @yP <| And.intro @yR <| And.intro @Gg <| And.intro @Gf <| @Ge):=
 And.intro @Mk <| And.intro @Mj <| And.intro @Mi <| And.intro @CL <| And.intro @yQ <| And.intro @yS <| And.intro @CM <| And.intro @bQ <| And.intro @gE <| And.intro @yP <| And.intro @yR <| And.intro @Gg <| And.intro @Gf <| @Ge
structure Pa where
 m:Int
 pr:Int
 P:List Int
 I:List Int
 U:List Int
def paD (p:Pa):DV:=.agg [.int .i64 p.m,.int .u8 p.pr,.sl 1 (af .i64 p.P) .any,.sl 1 (af .u8 p.I) .any,.sl 1 (af .u8 p.U) .any]
def pa0 (m:Int):Pa:=⟨m,0,[],[],[]⟩
def paR (x:Pa × List Ac):DV:=.tup [paD x.1,.sl 6 (cu x.2) .any]
noncomputable def GR:RFn:=⟨2,16,(SR [OP 2 (.box 5 (.t 0)),OP 4 (.alloc [.int .i64 0,.int .u8 0,.sl 0 [] .nil,.sl 0 [] .nil,.sl 0 [] .nil]),OP 5 (.mov (.c (.sl 0 [] .nil)))] [1,2,4] (.seq (.cK (.take (FA 7 1 2) [] (.take (LD 8 7) [.t 4] (.take (FA 9 2 2) [] (.take (LD 10 9) [.t 4] (.take (FA 11 3 2) [] (.take (LD 12 11) [.t 4] (.take (MV 13 1) [] (.take (OP 14 (.build [.int .i64 0,.int .i32 0,.int .u8 0,.int .u8 0,.sl 0 [] .nil,.sl 0 [] .nil] [(0,(1,(.c (.int .i64 3)))),(3,(1,(.t 8))),(4,(1,(.t 10))),(5,(1,(.t 12))),(2,(1,(.t 13)))])) [] (.alt (.op (OP 6 (.call 90 [.c (.int .i64 0)])) (.alt (.op (OP 15 (.bJ 6 [.int .i64 0,.int .i32 0,.int .u8 0,.int .u8 0,.sl 0 [] .nil,.sl 0 [] .nil] 1 [(0,(.t 14))])) (.op (SA 5 4 6) (.take (MV 5 15) [] .done))) (.op (SA 5 4 6) (.op (OP 15 (.bJ 6 [.int .i64 0,.int .i32 0,.int .u8 0,.int .u8 0,.sl 0 [] .nil,.sl 0 [] .nil] 1 [(0,(.t 14))])) (.take (MV 5 15) [] .done))))) (.op (OP 15 (.bJ 6 [.int .i64 0,.int .i32 0,.int .u8 0,.int .u8 0,.sl 0 [] .nil,.sl 0 [] .nil] 1 [(0,(.t 14))])) (.op (OP 6 (.call 90 [.c (.int .i64 0)])) (.op (SA 5 4 6) (.take (MV 5 15) [] .done))))))))))))) 0 [4,5]) .ret)),[.c 4 true 5,.t 5]⟩
theorem Ng:aK PG.P [⟨0,0,[1,2,4],[]⟩,⟨1,0,[4,5],[]⟩] 126=some GR:=by kernel_rfl
def jJ (p:Pa)(b:Int):Pa × List Ac:=(pa0 0,[⟨3,0,b,p.pr,some p.P,some p.I⟩])
def paO (n:Nat)(x:Pa × List Ac):DV × aj:=(.tup [paD x.1,.own n 0 x.2.length],[some (.arr 6 (cu x.2))])
theorem Z5 {p:Pa}{b:Int}:az PG 126 [paD p,.int .u8 b] fun n r os=>r=(paO n (jJ p b)).1∧os=(paO n (jJ p b)).2:=by
 refine az.cY (res:=fun n=>paO n (jJ p b)) Oc Ng (by simp [GR]) fun n=>?_
 unfold GR
 dsimp only [paD,paO,jJ,pa0]
 simp -implicitDefEqProofs -dsimp only [ZP,tN,gR,js,vcR,↓an,↓ak,if_true,if_false,implies_true,simprocAttr,ne_eq,exists_eq_left,exists_eq_left',Function.comp_apply]
def isS (k:IntKind):DV→Prop
 | .sl sz rows .any=>sz=1∧rows=af k (ints rows)∧inK k (ints rows)
 | _=>False
theorem mw (k:IntKind)(l:List Int):isS k (.sl 1 (af k l) .any)=inK k l:=by simp [isS,eA]
theorem zN {k:IntKind}{d:DV}(h:isS k d):d=.sl 1 (af k (aF d)) .any∧inK k (aF d):=by
 unfold isS at h
 split at h
 ·obtain ⟨rfl,h1,h2⟩:=h
  refine ⟨?_,h2⟩
  simp only [aF]
  rw [←h1]
 ·exact h.elim
def xM:List DV→Option aS
 | [.agg [.int .i64 m,.int .u8 pr,x,y,z],.int .u8 b]=>some ⟨isS .i64 x∧isS .u8 y∧isS .u8 z,fun n=>(.tup [.agg [.int .i64 0,.int .u8 0,.sl 1 [] .any,.sl 1 [] .any,.sl 1 [] .any],.own n 0 1],[some (.arr 6 (cu [⟨3,0,b,pr,some (aF x),some (aF y)⟩]))])⟩
 | _=>none
theorem vS (m pr b:Int)(x y z:DV):xM [.agg [.int .i64 m,.int .u8 pr,x,y,z],.int .u8 b]=some ⟨isS .i64 x∧isS .u8 y∧isS .u8 z,fun n=>(.tup [.agg [.int .i64 0,.int .u8 0,.sl 1 [] .any,.sl 1 [] .any,.sl 1 [] .any],.own n 0 1],[some (.arr 6 (cu [⟨3,0,b,pr,some (aF x),some (aF y)⟩]))])⟩:=au _
theorem XD (args:List DV)(s:aS)(hs:xM args=some s)(hp:s.pre):az PG 126 args fun n r os=>r=(s.res n).1∧os=(s.res n).2:=by
 unfold xM at hs
 split at hs
 ·rename_i m pr x y z b
  obtain rfl:=sj hs
  obtain ⟨h1,h2,h3⟩:=hp
  obtain ⟨e1,_⟩:=zN h1
  obtain ⟨e2,_⟩:=zN h2
  obtain ⟨e3,_⟩:=zN h3
  have:=Z5 (p:=⟨m,pr,aF x,aF y,aF z⟩) (b:=b)
  unfold paD at this
  simp only at this
  rw [←e1,←e2,←e3] at this
  exact this
 ·cases hs
def T21:FL:=(126,xM)::T20
theorem tQ:FOk PG (tab T21):=FOk.cons (Oc) XD
theorem y6 (args:List DV):tab T21 126 args=(xM args).map .o:=au _
theorem sr (args:List DV):tab T21 57 args=(mK args).map .o:=au _
theorem sq (args:List DV):tab T21 58 args=(mJ args).map .o:=au _
theorem sn (args:List DV):tab T21 86 args=(jB args).map .o:=au _
theorem vH (args:List DV):tab T21 90 args=(m4 args).map .o:=au _
theorem vI (args:List DV):tab T21 67 args=(lR args).map .o:=au _
theorem vG (args:List DV):tab T21 110 args=(m3 args).map .o:=au _
theorem qn (args:List DV):tab T21 54 args=(iI args).map .o:=au _
theorem y7 (args:List DV):tab T21 60 args=(nj args).map .o:=au _
theorem qm (args:List DV):tab T21 50 args=(gF args).map .o:=au _
theorem so (args:List DV):tab T21 89 args=(jD args).map .o:=au _
theorem y9 (args:List DV):tab T21 83 args=(oS args).map .o:=au _
theorem y8 (args:List DV):tab T21 125 args=(oQ args).map .o:=au _
theorem CR (args:List DV):tab T21 87 args=(qE args).map .o:=au _
theorem Gj:type_of% (And.intro @y6 <| And.intro @vS <| And.intro @sr <| And.intro @ke <| And.intro @sq <| And.intro @j9 <| And.intro @sn <| And.intro @iq <| And.intro @vH <| And.intro @jY <| And.intro @vI <| And.intro @jn <| And.intro @vG <| And.intro @jm <| And.intro @qn <| And.intro @e8 <| And.intro @y7 <| And.intro @ir <| And.intro @qm <| And.intro @di <| And.intro @so <| And.intro @eO <| And.intro @y9 <| And.intro @iw <| And.intro @y8 <| And.intro @iu <| And.intro @CR <| @eH):=And.intro @y6 <| And.intro @vS <| And.intro @sr <| And.intro @ke <| And.intro @sq <| And.intro @j9 <| And.intro @sn <| And.intro @iq <| And.intro @vH <| And.intro @jY <| And.intro @vI <| And.intro @jn <| And.intro @vG <| And.intro @jm <| And.intro @qn <| And.intro @e8 <| And.intro @y7 <| And.intro @ir <| And.intro @qm <| And.intro @di <| And.intro @so <| And.intro @eO <| And.intro @y9 <| And.intro @iw <| And.intro @y8 <| And.intro @iu <| And.intro @CR <| @eH
noncomputable def GQ:RFn:=⟨2,87,(SR [OP 2 (.box 5 (.t 0)),OP 4 (.alloc [.int .i64 0,.int .u8 0,.sl 0 [] .nil,.sl 0 [] .nil,.sl 0 [] .nil]),OP 5 (.mov (.c (.sl 0 [] .nil)))] [1,2,4] (.seq (.blk 0 (SR [MV 8 1,OP 9 (.call 86 [.t 8]),MV 7 9] [1,2,4,7] (.cond (.t 7) (SR [MV 10 1,OP 11 (.bJ 1 [.int .u8 0] 1 [(0,(.t 10))]),FA 12 0 2,NP (.store 1 (.t 12) (.c (.int .i64 5))),FA 13 3 2,SA 1 13 11] [2,4] (SR [LT 14 5 2,SA 5 4 14,OP 5 (.mov (.c (.sl 0 [] .nil)))] [4,5] .ret)) (SR [MV 16 1,OP 17 (.bin .geq (.t 16) (.c (.int .u8 64))),MV 15 17] [1,2,4,15] (.cond (.t 15) (SR [⟨some 18,.load true 5 (.t 2),none,true⟩,MV 19 1,OP 20 (.call 126 [.t 18,.t 19]),OP 21 (.ext (.t 20) 0),OP 22 (.ext (.t 20) 1),SA 5 4 21,MV 5 22] [4,5] .ret) (SR [MV 24 1,OP 25 (.bin .eql (.t 24) (.c (.int .u8 58))),MV 26 25,MG 27 1 26 false,OG 28 (.bin .gtr (.t 27) (.c (.int .u8 59))) 26 false,MG 29 28 26 false,FG 30 2 2 29 true,LG 31 30 29 true,OG 32 (.len (.t 31)) 29 true,OG 33 (.bin .gtr (.t 32) (.c (.int .i64 0))) 29 true,MG 34 33 29 true,FG 35 1 2 34 false,LG 36 35 34 false,OG 37 (.bin .neq (.t 36) (.c (.int .u8 0))) 34 false,OG 38 (.pick (.t 34) (.c (.bool true)) (.t 37)) 29 true,OG 39 (.pick (.t 29) (.t 38) (.c (.bool false))) 26 false,OP 40 (.pick (.t 26) (.c (.bool true)) (.t 39)),MV 23 40] [1,2,4,23] (.cond (.t 23) (SR [OP 41 (.call 90 [.c (.int .i64 6)]),SA 5 4 41,OP 5 (.mov (.c (.sl 0 [] .nil)))] [4,5] .ret) (SR [MV 43 1,OP 44 (.bin .gtr (.t 43) (.c (.int .u8 59))),MV 42 44] [1,2,4,42] (.cond (.t 42) (SR [MV 45 1,FA 46 1 2,SA 1 46 45] [2,4] (SR [LT 47 5 2,SA 5 4 47,OP 5 (.mov (.c (.sl 0 [] .nil)))] [4,5] .ret)) .skip))))))))) (.seq (SR [FA 48 2 2,LD 49 48,OP 50 (.len (.t 49)),BI 51 .eql 50 0] [1,2,4,51] (.cond (.t 51) (.reg [OP 52 (.bJ 1 [.int .i64 0] 1 [(0,(.c (.int .i64 0)))]),FA 53 2 2,SA 1 53 52] 0 [1,2,4]) .skip)) (SR [FA 54 2 2,LD 55 54,FA 56 2 2,LD 57 56,OP 58 (.len (.t 57)),BI 59 .sub 58 1,OP 60 (.aT 1 (.t 55) (.t 59)),MV 6 60] [1,2,4,6] (.seq (.blk 1 (SR [MV 67 1,OP 68 (.bin .neq (.t 67) (.c (.int .u8 59))),MV 66 68] [1,2,4,6,66] (.cond (.t 66) (.reg [MV 69 6,MV 70 6,OP 71 (.aC (.t 70)),LD 72 71,OP 73 (.bin .mul (.c (.int .i64 10)) (.t 72)),MV 74 1,OP 75 (.bin .sub (.t 74) (.c (.int .u8 48))),OP 76 (.conv (.i2i .i64) (.t 75)),BT 77 .add 73 76,OP 78 (.mm false (.t 77) (.c (.int .i64 65535))),OP 79 (.aC (.t 69)),SA 1 79 78] 0 [2,4]) (SR [FA 81 2 2,LD 82 81,OP 83 (.len (.t 82)),BI 84 .geq 83 16,MV 80 84] [2,4,80] (.cond (.t 80) (SR [OP 85 (.call 90 [.c (.int .i64 6)]),SA 5 4 85,OP 5 (.mov (.c (.sl 0 [] .nil)))] [4,5] .ret) (.reg [FA 61 2 2,LD 62 61,OP 63 (.bJ 1 [.int .i64 0] 1 [(0,(.c (.int .i64 0)))]),OP 64 (.append 1 8 (.t 62) (.t 63)),FA 65 2 2,SA 1 65 64] 0 [2,4])))))) (SR [LT 86 5 2,SA 5 4 86,OP 5 (.mov (.c (.sl 0 [] .nil)))] [4,5] .ret)))))),[.c 4 true 5,.t 5]⟩
theorem Nf:aK PG.P [⟨0,0,[1,2,4],[]⟩,⟨1,0,[1,2,4,7],[]⟩,⟨2,0,[2,4],[]⟩,⟨3,0,[4,5],[]⟩,⟨4,0,[1,2,4,15],[]⟩,⟨5,0,[4,5],[18]⟩,⟨6,0,[1,2,4,23],[]⟩,⟨7,0,[4,5],[]⟩,⟨8,0,[1,2,4,42],[]⟩,⟨9,0,[2,4],[]⟩,⟨10,0,[4,5],[]⟩,⟨11,0,[1,2,4,51],[]⟩,⟨12,0,[1,2,4],[]⟩,⟨13,0,[1,2,4,6],[]⟩,⟨14,0,[2,4],[]⟩,⟨15,0,[1,2,4,6,66],[]⟩,⟨16,0,[2,4],[]⟩,⟨17,0,[2,4,80],[]⟩,⟨18,0,[4,5],[]⟩,⟨19,0,[4,5],[]⟩] 94=some GQ:=by kernel_rfl
def mN (P:List Int)(b:Int):List Int:=P.set (P.length-1) (min (10*P.getD (P.length-1) 0+(b-48)) 65535)
def gK (p:Pa)(b:Int):Pa × List Ac:=
 if de b=true then (⟨5,p.pr,p.P,[b],p.U⟩,[])
 else if 64≤b then jJ p b
 else if b=58∨(59<b∧(0<(p.P.length:Int)∨p.pr≠0)) then (pa0 6,[])
 else if 59<b then (⟨p.m,b,p.P,p.I,p.U⟩,[])
 else if (p.P.length:Int)=0 then (if b=59 then (⟨p.m,p.pr,[0,0],p.I,p.U⟩,[]) else (⟨p.m,p.pr,[min (b-48) 65535],p.I,p.U⟩,[]))
 else if b=59 then (if 16≤(p.P.length:Int) then (pa0 6,[]) else (⟨p.m,p.pr,p.P++ [0],p.I,p.U⟩,[]))
 else (⟨p.m,p.pr,mN p.P b,p.I,p.U⟩,[])
theorem mP {p:Pa}{b:Int}(hv:de b=false):gK p b=if 64≤b then jJ p b
 else if b=58∨(59<b∧(0<(p.P.length:Int)∨p.pr≠0)) then (pa0 6,[])
 else if 59<b then (⟨p.m,b,p.P,p.I,p.U⟩,[])
 else if (p.P.length:Int)=0 then (if b=59 then (⟨p.m,p.pr,[0,0],p.I,p.U⟩,[]) else (⟨p.m,p.pr,[min (b-48) 65535],p.I,p.U⟩,[]))
 else if b=59 then (if 16≤(p.P.length:Int) then (pa0 6,[]) else (⟨p.m,p.pr,p.P++ [0],p.I,p.U⟩,[]))
 else (⟨p.m,p.pr,mN p.P b,p.I,p.U⟩,[]):=by
 unfold gK
 rw [hv,if_neg (by decide)]
theorem XC {p:Pa}{b:Int}(hv:de b=false)(h:64≤b):gK p b=jJ p b:=by rw [mP hv,if_pos h]
theorem Gt {p:Pa}{b:Int}(hv:de b=false)(h:¬64≤b)(h2:b=58∨(59<b∧(0<(p.P.length:Int)∨p.pr≠0))):gK p b=(pa0 6,[]):=by rw [mP hv,if_neg h,if_pos h2]
theorem XB {p:Pa}{b:Int}(hv:de b=false)(h:¬64≤b)(h2:¬(b=58∨(59<b∧(0<(p.P.length:Int)∨p.pr≠0))))(h3:59<b):gK p b=(⟨p.m,b,p.P,p.I,p.U⟩,[]):=by rw [mP hv,if_neg h,if_neg h2,if_pos h3]
theorem XA {p:Pa}{b:Int}(hv:de b=false)(h:b=59)(h4:(p.P.length:Int)=0):gK p b=(⟨p.m,p.pr,[0,0],p.I,p.U⟩,[]):=by
 rw [mP hv,if_neg (by omega),if_neg (by omega),if_neg (by omega),if_pos h4,if_pos h]
theorem Xz {p:Pa}{b:Int}(hv:de b=false)(h:b<58)(h4:(p.P.length:Int)=0):gK p b=(⟨p.m,p.pr,[min (b-48) 65535],p.I,p.U⟩,[]):=by
 rw [mP hv,if_neg (by omega),if_neg (by omega),if_neg (by omega),if_pos h4,if_neg (by omega)]
theorem Xy {p:Pa}{b:Int}(hv:de b=false)(h:b=59)(h4:¬(p.P.length:Int)=0)(h5:16≤(p.P.length:Int)):gK p b=(pa0 6,[]):=by
 rw [mP hv,if_neg (by omega),if_neg (by omega),if_neg (by omega),if_neg h4,if_pos h,if_pos h5]
theorem Xx {p:Pa}{b:Int}(hv:de b=false)(h:b=59)(h4:¬(p.P.length:Int)=0)(h5:¬16≤(p.P.length:Int)):gK p b=(⟨p.m,p.pr,p.P++ [0],p.I,p.U⟩,[]):=by
 rw [mP hv,if_neg (by omega),if_neg (by omega),if_neg (by omega),if_neg h4,if_pos h,if_neg h5]
theorem Xw {p:Pa}{b:Int}(hv:de b=false)(h:b<58)(h4:¬(p.P.length:Int)=0):gK p b=(⟨p.m,p.pr,mN p.P b,p.I,p.U⟩,[]):=by
 rw [mP hv,if_neg (by omega),if_neg (by omega),if_neg (by omega),if_neg h4,if_neg (by omega)]
def paH (p:Pa)(b:Int)(n:Nat):List DV:=[.agg [.int .i64 p.m,.int .u8 p.pr,.own n 0 p.P.length,.own (n+1) 0 p.I.length,.sl 1 (af .u8 p.U) .any],.int .u8 b]
def jw (p:Pa):List Ob:=[.arr 1 (af .i64 p.P),.arr 1 (af .u8 p.I)]
def dg (p:Pa):Prop:=inK .i64 p.P∧inK .u8 p.I∧inK .u8 p.U∧p.P.length≤1000∧p.I.length≤1000∧p.U.length≤1000∧∀n∈p.P,0≤n∧n≤65535
theorem yy:IntKind.i64.wrap 0=0:=by decide
def paF (x:Pa × List Ac):DV × aj:=(paR x,[])
theorem Z3 {p:Pa}{b:Int}(hp:dg p)(hb:32≤b∧b≤255):eY PG 94 (paH p b) (jw p) (fun n=>paF (gK p b)):=by
 obtain ⟨m,pr,P,I,U⟩:=p
 obtain ⟨h1,h2,h3,h4,h5,h6,h7⟩:=hp
 simp only at *
 refine eY.iM tQ Nf (fun n=>by simp [GQ,paH]) fun n=>?_
 unfold GQ
 dsimp only [paH,jw]
 simp -implicitDefEqProofs -dsimp only [Gj,mw,List.length_set,List.take_length,yy,tN,gR,js,jE,vcR,↓an,↓ak,if_true,if_false,implies_true,simprocAttr,ne_eq,exists_eq_left,exists_eq_left',Function.comp_apply]
 have hb':0≤b∧b≤255:=by omega
 refine ⟨hb',?_⟩
 have ht1:List.take (P.length+1) (P++ [0])=P++ [0]:=List.take_of_length_le (by simp)
 have ht2:∀k v,List.take P.length (P.set k v)=P.set k v:=fun k v=>List.take_of_length_le (by simp)
 simp only [ht1,ht2]
 cases hv:de b
 ·have h48:48≤b:=by
   simp only [de,Bool.and_eq_false_iff,decide_eq_false_iff_not] at hv;omega
  have hw8:IntKind.u8.wrap (b-48)=b-48:=wU8 (by omega) (by omega)
  have hw9:IntKind.i64.wrap (b-48)=b-48:=aP (by omega) (by omega)
  have acL:IntKind.i64.wrap (0+(b-48))=b-48:=by rw [Int.zero_add];exact hw9
  have SL:IntKind.i64.wrap ((P.length:Int)-1)=(P.length:Int)-1:=aP (by omega) (by omega)
  have SJ:((P.length:Int)-1).toNat=P.length-1:=by omega
  have hd:0<P.length→min (IntKind.i64.wrap (IntKind.i64.wrap (10*P.getD (P.length-1) 0)+(b-48))) 65535=min (10*P.getD (P.length-1) 0+(b-48)) 65535:=fun h=>by
   have hmem:P.getD (P.length-1) 0∈P:=by
    rw [List.getD_eq_getElem?_getD,List.getElem?_eq_getElem (by omega)]
    exact List.getElem_mem _
   have:=h7 _ hmem
   rw [aP (n:=10*P.getD (P.length-1) 0) (by omega) (by omega),aP (by omega) (by omega)]
  simp only [hw8,hw9,acL,SL,SJ,gD]
  clear h7 hw8 hw9 acL SL SJ ht1 ht2
  have leaf:∀(x:DV) (y:Pa × List Ac),gK ⟨m,pr,P,I,U⟩ b=y→wkT x (paR y)→wkT x (paF (gK ⟨m,pr,P,I,U⟩ b)).1∧[]=(paF (gK ⟨m,pr,P,I,U⟩ b)).2:=fun x y h1 h2=>by rw [h1];exact ⟨h2,rfl⟩
  refine ⟨fun c1=>⟨⟨h1,h2,h3⟩,leaf _ _ (XC hv c1) (fR _)⟩,fun c1=>⟨fun c2=>leaf _ _ (Gt hv c1 (.inl c2)) ?_,fun c2=>⟨fun c3=>⟨fun c4=>leaf _ _ (Gt hv c1 (.inr ⟨c3,.inl c4⟩)) ?_,fun c4=>⟨fun c5=>⟨fun c6=>leaf _ _ (XB hv c1 (by
   show ¬(b=58∨(59<b∧(0<(P.length:Int)∨pr≠0)))
   omega) c3) ?_,fun c6=>absurd c3 c6⟩,fun c5=>leaf _ _ (Gt hv c1 (.inr ⟨c3,.inr c5⟩)) ?_⟩⟩,fun c3=>?_⟩⟩⟩
  case UK=>
   have hc2:¬b=58:=c2
   refine ⟨fun c6=>absurd c6 c3,fun _=>⟨fun c7=>⟨fun c8=>leaf _ _ (XA hv c8 c7) ?_,fun c8=>leaf _ _ (Xz hv (by omega) c7) ?_⟩,fun c7=>⟨⟨by omega,by omega⟩,fun c8=>⟨fun c9=>leaf _ _ (Xy hv c8 c7 c9) ?_,fun c9=>⟨⟨by omega,by omega⟩,leaf _ _ (Xx hv c8 c7 c9) ?_⟩⟩,fun c8=>⟨by omega,by omega,leaf _ _ (Xw hv (by omega) c7) ?_⟩⟩⟩⟩
   case UK=>
    rw [hd (by omega)]
    simp [paR,paD,pa0,mN,dj,cF,dm,dw,cV,eX,eW,bQ,bk]
   all_goals simp [paR,paD,pa0,mN,dj,cF,dm,dw,cV,eX,eW,bQ,bk]
  all_goals simp [paR,paD,pa0,mN,dj,cF,dm,dw,cV,eX,eW,bQ,bk]
 ·rw [iR]
  have:gK ⟨m,pr,P,I,U⟩ b=(⟨5,pr,P,[b],U⟩,[]):=by unfold gK;rw [hv,if_pos rfl]
  rw [this]
  simp [paF,paR,paD,dj,cF,dm,dw,cV,eX,eW,bQ]
noncomputable def AM:RFn:=⟨2,32,(SR [OP 2 (.box 5 (.t 0)),OP 4 (.alloc [.int .i64 0,.int .u8 0,.sl 0 [] .nil,.sl 0 [] .nil,.sl 0 [] .nil]),OP 5 (.mov (.c (.sl 0 [] .nil)))] [1,2,4] (.seq (.blk 0 (SR [MV 7 1,OP 8 (.bin .geq (.t 7) (.c (.int .u8 64))),MV 6 8] [1,2,4,6] (.cond (.t 6) (SR [⟨some 9,.load true 5 (.t 2),none,true⟩,MV 10 1,OP 11 (.call 126 [.t 9,.t 10]),OP 12 (.ext (.t 11) 0),OP 13 (.ext (.t 11) 1),SA 5 4 12,MV 5 13] [4,5] .ret) (SR [MV 15 1,OP 16 (.call 86 [.t 15]),OP 17 (.un .not (.t 16)),MV 18 17,FG 19 3 2 18 false,LG 20 19 18 false,OG 21 (.len (.t 20)) 18 false,OG 22 (.bin .geq (.t 21) (.c (.int .i64 2))) 18 false,OP 23 (.pick (.t 18) (.c (.bool true)) (.t 22)),MV 14 23] [1,2,4,14] (.cond (.t 14) (SR [OP 24 (.call 90 [.c (.int .i64 6)]),SA 5 4 24,OP 5 (.mov (.c (.sl 0 [] .nil)))] [4,5] .ret) .skip))))) (SR [FA 25 3 2,LD 26 25,MV 27 1,OP 28 (.bJ 1 [.int .u8 0] 1 [(0,(.t 27))]),OP 29 (.append 1 1 (.t 26) (.t 28)),FA 30 3 2,SA 1 30 29] [2,4] (SR [LT 31 5 2,SA 5 4 31,OP 5 (.mov (.c (.sl 0 [] .nil)))] [4,5] .ret)))),[.c 4 true 5,.t 5]⟩
theorem JA:aK PG.P [⟨0,0,[1,2,4],[]⟩,⟨1,0,[1,2,4,6],[]⟩,⟨2,0,[4,5],[9]⟩,⟨3,0,[1,2,4,14],[]⟩,⟨4,0,[4,5],[]⟩,⟨5,0,[2,4],[]⟩,⟨6,0,[4,5],[]⟩] 95=some AM:=by kernel_rfl
noncomputable def AL:RFn:=⟨2,29,(SR [OP 2 (.box 5 (.t 0)),OP 4 (.alloc [.int .i64 0,.int .u8 0,.sl 0 [] .nil,.sl 0 [] .nil,.sl 0 [] .nil]),OP 5 (.mov (.c (.sl 0 [] .nil)))] [1,2,4] (.seq (.blk 0 (SR [MV 7 1,OP 8 (.call 86 [.t 7]),OP 9 (.un .not (.t 8)),MV 6 9] [1,2,4,6] (.cond (.t 6) (.seq (.cK (.take (FA 11 3 2) [] (.alt (.op (OP 10 (.call 90 [.c (.int .i64 0)])) (.alt (.op ⟨some 12,.load false 1 (.t 11),none,true⟩ (.take (MV 13 1) [] (.take (OP 14 (.build [.int .i64 0,.int .i32 0,.int .u8 0,.int .u8 0,.sl 0 [] .nil,.sl 0 [] .nil] [(0,(1,(.c (.int .i64 2)))),(5,(1,(.t 12))),(2,(1,(.t 13)))])) [] (.alt (.op (OP 15 (.bJ 6 [.int .i64 0,.int .i32 0,.int .u8 0,.int .u8 0,.sl 0 [] .nil,.sl 0 [] .nil] 1 [(0,(.t 14))])) (.op (SA 5 4 10) (.take (MV 5 15) [] .done))) (.op (SA 5 4 10) (.op (OP 15 (.bJ 6 [.int .i64 0,.int .i32 0,.int .u8 0,.int .u8 0,.sl 0 [] .nil,.sl 0 [] .nil] 1 [(0,(.t 14))])) (.take (MV 5 15) [] .done))))))) (.alt (.op (MV 13 1) (.alt (.op ⟨some 12,.load false 1 (.t 11),none,true⟩ (.take (OP 14 (.build [.int .i64 0,.int .i32 0,.int .u8 0,.int .u8 0,.sl 0 [] .nil,.sl 0 [] .nil] [(0,(1,(.c (.int .i64 2)))),(5,(1,(.t 12))),(2,(1,(.t 13)))])) [] (.alt (.op (OP 15 (.bJ 6 [.int .i64 0,.int .i32 0,.int .u8 0,.int .u8 0,.sl 0 [] .nil,.sl 0 [] .nil] 1 [(0,(.t 14))])) (.op (SA 5 4 10) (.take (MV 5 15) [] .done))) (.op (SA 5 4 10) (.op (OP 15 (.bJ 6 [.int .i64 0,.int .i32 0,.int .u8 0,.int .u8 0,.sl 0 [] .nil,.sl 0 [] .nil] 1 [(0,(.t 14))])) (.take (MV 5 15) [] .done)))))) (.op (SA 5 4 10) (.op ⟨some 12,.load false 1 (.t 11),none,true⟩ (.take (OP 14 (.build [.int .i64 0,.int .i32 0,.int .u8 0,.int .u8 0,.sl 0 [] .nil,.sl 0 [] .nil] [(0,(1,(.c (.int .i64 2)))),(5,(1,(.t 12))),(2,(1,(.t 13)))])) [] (.op (OP 15 (.bJ 6 [.int .i64 0,.int .i32 0,.int .u8 0,.int .u8 0,.sl 0 [] .nil,.sl 0 [] .nil] 1 [(0,(.t 14))])) (.take (MV 5 15) [] .done))))))) (.op (SA 5 4 10) (.alt (.op ⟨some 12,.load false 1 (.t 11),none,true⟩ (.take (MV 13 1) [] (.take (OP 14 (.build [.int .i64 0,.int .i32 0,.int .u8 0,.int .u8 0,.sl 0 [] .nil,.sl 0 [] .nil] [(0,(1,(.c (.int .i64 2)))),(5,(1,(.t 12))),(2,(1,(.t 13)))])) [] (.op (OP 15 (.bJ 6 [.int .i64 0,.int .i32 0,.int .u8 0,.int .u8 0,.sl 0 [] .nil,.sl 0 [] .nil] 1 [(0,(.t 14))])) (.take (MV 5 15) [] .done))))) (.op (MV 13 1) (.op ⟨some 12,.load false 1 (.t 11),none,true⟩ (.take (OP 14 (.build [.int .i64 0,.int .i32 0,.int .u8 0,.int .u8 0,.sl 0 [] .nil,.sl 0 [] .nil] [(0,(1,(.c (.int .i64 2)))),(5,(1,(.t 12))),(2,(1,(.t 13)))])) [] (.op (OP 15 (.bJ 6 [.int .i64 0,.int .i32 0,.int .u8 0,.int .u8 0,.sl 0 [] .nil,.sl 0 [] .nil] 1 [(0,(.t 14))])) (.take (MV 5 15) [] .done)))))))))) (.alt (.op ⟨some 12,.load false 1 (.t 11),none,true⟩ (.take (MV 13 1) [] (.take (OP 14 (.build [.int .i64 0,.int .i32 0,.int .u8 0,.int .u8 0,.sl 0 [] .nil,.sl 0 [] .nil] [(0,(1,(.c (.int .i64 2)))),(5,(1,(.t 12))),(2,(1,(.t 13)))])) [] (.alt (.op (OP 10 (.call 90 [.c (.int .i64 0)])) (.alt (.op (OP 15 (.bJ 6 [.int .i64 0,.int .i32 0,.int .u8 0,.int .u8 0,.sl 0 [] .nil,.sl 0 [] .nil] 1 [(0,(.t 14))])) (.op (SA 5 4 10) (.take (MV 5 15) [] .done))) (.op (SA 5 4 10) (.op (OP 15 (.bJ 6 [.int .i64 0,.int .i32 0,.int .u8 0,.int .u8 0,.sl 0 [] .nil,.sl 0 [] .nil] 1 [(0,(.t 14))])) (.take (MV 5 15) [] .done))))) (.op (OP 15 (.bJ 6 [.int .i64 0,.int .i32 0,.int .u8 0,.int .u8 0,.sl 0 [] .nil,.sl 0 [] .nil] 1 [(0,(.t 14))])) (.op (OP 10 (.call 90 [.c (.int .i64 0)])) (.op (SA 5 4 10) (.take (MV 5 15) [] .done)))))))) (.op (MV 13 1) (.alt (.op (OP 10 (.call 90 [.c (.int .i64 0)])) (.alt (.op ⟨some 12,.load false 1 (.t 11),none,true⟩ (.take (OP 14 (.build [.int .i64 0,.int .i32 0,.int .u8 0,.int .u8 0,.sl 0 [] .nil,.sl 0 [] .nil] [(0,(1,(.c (.int .i64 2)))),(5,(1,(.t 12))),(2,(1,(.t 13)))])) [] (.alt (.op (OP 15 (.bJ 6 [.int .i64 0,.int .i32 0,.int .u8 0,.int .u8 0,.sl 0 [] .nil,.sl 0 [] .nil] 1 [(0,(.t 14))])) (.op (SA 5 4 10) (.take (MV 5 15) [] .done))) (.op (SA 5 4 10) (.op (OP 15 (.bJ 6 [.int .i64 0,.int .i32 0,.int .u8 0,.int .u8 0,.sl 0 [] .nil,.sl 0 [] .nil] 1 [(0,(.t 14))])) (.take (MV 5 15) [] .done)))))) (.op (SA 5 4 10) (.op ⟨some 12,.load false 1 (.t 11),none,true⟩ (.take (OP 14 (.build [.int .i64 0,.int .i32 0,.int .u8 0,.int .u8 0,.sl 0 [] .nil,.sl 0 [] .nil] [(0,(1,(.c (.int .i64 2)))),(5,(1,(.t 12))),(2,(1,(.t 13)))])) [] (.op (OP 15 (.bJ 6 [.int .i64 0,.int .i32 0,.int .u8 0,.int .u8 0,.sl 0 [] .nil,.sl 0 [] .nil] 1 [(0,(.t 14))])) (.take (MV 5 15) [] .done))))))) (.op ⟨some 12,.load false 1 (.t 11),none,true⟩ (.take (OP 14 (.build [.int .i64 0,.int .i32 0,.int .u8 0,.int .u8 0,.sl 0 [] .nil,.sl 0 [] .nil] [(0,(1,(.c (.int .i64 2)))),(5,(1,(.t 12))),(2,(1,(.t 13)))])) [] (.alt (.op (OP 10 (.call 90 [.c (.int .i64 0)])) (.alt (.op (OP 15 (.bJ 6 [.int .i64 0,.int .i32 0,.int .u8 0,.int .u8 0,.sl 0 [] .nil,.sl 0 [] .nil] 1 [(0,(.t 14))])) (.op (SA 5 4 10) (.take (MV 5 15) [] .done))) (.op (SA 5 4 10) (.op (OP 15 (.bJ 6 [.int .i64 0,.int .i32 0,.int .u8 0,.int .u8 0,.sl 0 [] .nil,.sl 0 [] .nil] 1 [(0,(.t 14))])) (.take (MV 5 15) [] .done))))) (.op (OP 15 (.bJ 6 [.int .i64 0,.int .i32 0,.int .u8 0,.int .u8 0,.sl 0 [] .nil,.sl 0 [] .nil] 1 [(0,(.t 14))])) (.op (OP 10 (.call 90 [.c (.int .i64 0)])) (.op (SA 5 4 10) (.take (MV 5 15) [] .done)))))))))))) 0 [4,5]) .ret) (SR [FA 17 3 2,LD 18 17,OP 19 (.len (.t 18)),BI 20 .geq 19 2,MV 16 20] [1,2,4,16] (.cond (.t 16) (SR [OP 21 (.call 90 [.c (.int .i64 3)]),SA 5 4 21,OP 5 (.mov (.c (.sl 0 [] .nil)))] [4,5] .ret) .skip))))) (SR [FA 22 3 2,LD 23 22,MV 24 1,OP 25 (.bJ 1 [.int .u8 0] 1 [(0,(.t 24))]),OP 26 (.append 1 1 (.t 23) (.t 25)),FA 27 3 2,SA 1 27 26] [2,4] (SR [LT 28 5 2,SA 5 4 28,OP 5 (.mov (.c (.sl 0 [] .nil)))] [4,5] .ret)))),[.c 4 true 5,.t 5]⟩
theorem Jz:aK PG.P [⟨0,0,[1,2,4],[]⟩,⟨1,0,[1,2,4,6],[]⟩,⟨2,0,[4,5],[12]⟩,⟨3,0,[1,2,4,16],[]⟩,⟨4,0,[4,5],[]⟩,⟨5,0,[2,4],[]⟩,⟨6,0,[4,5],[]⟩] 93=some AL:=by kernel_rfl
noncomputable def GP:RFn:=⟨2,32,(SR [OP 2 (.box 5 (.t 0)),OP 4 (.alloc [.int .i64 0,.int .u8 0,.sl 0 [] .nil,.sl 0 [] .nil,.sl 0 [] .nil]),OP 5 (.mov (.c (.sl 0 [] .nil)))] [1,4] (.seq (.blk 0 (SR [MV 7 1,OP 8 (.call 86 [.t 7]),MV 6 8] [1,4,6] (.cond (.t 6) (SR [MV 9 1,OP 10 (.bJ 1 [.int .u8 0] 1 [(0,(.t 9))]),OP 11 (.build [.int .i64 0,.int .u8 0,.sl 0 [] .nil,.sl 0 [] .nil,.sl 0 [] .nil] [(0,(1,(.c (.int .i64 2)))),(3,(1,(.t 10)))]),SA 5 4 11,OP 5 (.mov (.c (.sl 0 [] .nil)))] [4,5] .ret) (SR [MV 13 1,OP 14 (.bin .eql (.t 13) (.c (.int .u8 91))),MV 12 14] [1,4,12] (.cond (.t 12) (SR [OP 15 (.call 90 [.c (.int .i64 4)]),SA 5 4 15,OP 5 (.mov (.c (.sl 0 [] .nil)))] [4,5] .ret) (.seq (SR [MV 17 1,OP 18 (.bin .eql (.t 17) (.c (.int .u8 93))),MV 16 18] [1,4,16] (.cond (.t 16) .skip (SR [MV 19 1,OP 20 (.bin .eql (.t 19) (.c (.int .u8 80))),MV 16 20] [1,4,16] (.cond (.t 16) .skip (SR [MV 21 1,OP 22 (.bin .eql (.t 21) (.c (.int .u8 88))),MV 16 22] [1,4,16] (.cond (.t 16) .skip (SR [MV 23 1,OP 24 (.bin .eql (.t 23) (.c (.int .u8 94))),MV 16 24] [1,4,16] (.cond (.t 16) .skip (.reg [MV 25 1,OP 26 (.bin .eql (.t 25) (.c (.int .u8 95))),MV 16 26] 0 [1,4,16]))))))))) (.cond (.t 16) (SR [OP 27 (.call 90 [.c (.int .i64 7)]),SA 5 4 27,OP 5 (.mov (.c (.sl 0 [] .nil)))] [4,5] .ret) .skip))))))) (SR [OP 28 (.call 90 [.c (.int .i64 0)]),MV 29 1,OP 30 (.build [.int .i64 0,.int .i32 0,.int .u8 0,.int .u8 0,.sl 0 [] .nil,.sl 0 [] .nil] [(0,(1,(.c (.int .i64 2)))),(2,(1,(.t 29)))]),OP 31 (.bJ 6 [.int .i64 0,.int .i32 0,.int .u8 0,.int .u8 0,.sl 0 [] .nil,.sl 0 [] .nil] 1 [(0,(.t 30))]),SA 5 4 28,MV 5 31] [4,5] .ret))),[.c 4 true 5,.t 5]⟩
theorem Nd:aK PG.P [⟨0,0,[1,4],[]⟩,⟨1,0,[1,4,6],[]⟩,⟨2,0,[4,5],[]⟩,⟨3,0,[1,4,12],[]⟩,⟨4,0,[4,5],[]⟩,⟨5,0,[1,4,16],[]⟩,⟨6,0,[1,4,16],[]⟩,⟨7,0,[1,4,16],[]⟩,⟨8,0,[1,4,16],[]⟩,⟨9,0,[1,4,16],[]⟩,⟨10,0,[4,5],[]⟩,⟨11,0,[4,5],[]⟩] 92=some GP:=by kernel_rfl
noncomputable def rM:RC:=(SR [BT 23 .lss 22 21] [2,4,8,20,21,22,23] (.seq (.cond (.t 23) .skip (.ext 0)) (.seq (.blk 1 (SR [OP 24 (.aT 1 (.t 20) (.t 22)),LD 25 24,MV 10 25] [2,4,8,10,20,21,22] (.reg [MV 26 8,MV 27 10,OP 28 (.build [.int .i64 0,.int .i32 0,.int .u8 0,.int .u8 0,.sl 0 [] .nil,.sl 0 [] .nil] [(0,(1,(.c (.int .i64 0)))),(1,(1,(.t 27)))]),OP 29 (.bJ 6 [.int .i64 0,.int .i32 0,.int .u8 0,.int .u8 0,.sl 0 [] .nil,.sl 0 [] .nil] 1 [(0,(.t 28))]),OP 30 (.append 6 64 (.t 26) (.t 29)),MV 8 30] 0 [2,4,8,20,21,22]))) (.reg [BI 31 .add 22 1,MV 22 31] 0 [2,4,8,20,21,22]))))
noncomputable def sV:RFn:=⟨2,34,(SR [OP 2 (.box 5 (.t 0)),OP 4 (.alloc [.int .i64 0,.int .u8 0,.sl 0 [] .nil,.sl 0 [] .nil,.sl 0 [] .nil]),OP 5 (.mov (.c (.sl 0 [] .nil)))] [1,2,4] (SR [FA 12 4 2,LD 13 12,MV 14 1,OP 15 (.call 60 [.t 13,.t 14]),MV 11 15,OP 16 (.ext (.t 11) 0),OP 17 (.ext (.t 11) 1),MV 6 16,MV 7 17] [2,4,6,7] (SR [MV 18 6,FA 19 4 2,SA 1 19 18] [2,4,7] (SR [OP 8 (.mov (.c (.sl 0 [] .nil)))] [2,4,7,8] (.seq (SR [MV 20 7,OP 21 (.len (.t 20)),OP 22 (.mov (.c (.int .i64 0)))] [2,4,8,20,21,22] (.blk 0 (.loop rM))) (SR [LT 32 5 2,MV 33 8,SA 5 4 32,MV 5 33] [4,5] .ret)))))),[.c 4 true 5,.t 5]⟩
theorem Dl:aK PG.P [⟨0,0,[1,2,4],[]⟩,⟨1,0,[2,4,6,7],[]⟩,⟨2,0,[2,4,7],[]⟩,⟨3,0,[2,4,7,8],[]⟩,⟨4,0,[2,4,8,20,21,22],[]⟩,⟨5,0,[2,4,8,20,21,22,23],[]⟩,⟨6,0,[2,4,8,10,20,21,22],[]⟩,⟨7,0,[2,4,8,20,21,22],[]⟩,⟨8,0,[2,4,8,20,21,22],[]⟩,⟨9,0,[4,5],[]⟩] 91=some sV:=by kernel_rfl
def iW (p:Pa)(b:Int):Pa × List Ac:=
 if 64≤b then jJ p b
 else if de b=false∨2≤(p.I.length:Int) then (pa0 6,[])
 else (⟨p.m,p.pr,p.P,p.I++ [b],p.U⟩,[])
theorem Xv {p:Pa}{b:Int}(hp:dg p)(hb:0≤b∧b≤255):eY PG 95 (paH p b) (jw p) (fun n=>paF (iW p b)):=by
 obtain ⟨m,pr,P,I,U⟩:=p
 obtain ⟨h1,h2,h3,h4,h5,h6,h7⟩:=hp
 simp only at *
 refine eY.iM tQ JA (fun n=>by simp [AM,paH]) fun n=>?_
 unfold AM
 dsimp only [paH,jw]
 simp -implicitDefEqProofs -dsimp only [Gj,mw,List.length_set,List.take_length,yy,tN,gR,js,jE,vcR,↓an,↓ak,if_true,if_false,implies_true,simprocAttr,ne_eq,exists_eq_left,exists_eq_left',Function.comp_apply]
 have ht1:List.take (I.length+1) (I++ [b])=I++ [b]:=List.take_of_length_le (by simp)
 rw [ht1]
 have leaf:∀(x:DV) (y:Pa × List Ac),iW ⟨m,pr,P,I,U⟩ b=y→wkT x (paR y)→wkT x (paF (iW ⟨m,pr,P,I,U⟩ b)).1∧[]=(paF (iW ⟨m,pr,P,I,U⟩ b)).2:=fun x y h1 h2=>by rw [h1];exact ⟨h2,rfl⟩
 refine ⟨fun c1=>⟨⟨h1,h2,h3⟩,leaf _ _ (by unfold iW;rw [if_pos c1]) (fR _)⟩,fun c1=>⟨hb,?_⟩⟩
 cases hv:de b
 ·rw [gD]
  refine leaf _ (pa0 6,[]) (by unfold iW;rw [if_neg c1,if_pos (.inl hv)]) ?_
  simp [paR,paD,pa0,mN,dj,cF,dm,dw,cV,eX,eW,bQ,bk]
 ·rw [iR]
  refine ⟨fun c2=>leaf _ (pa0 6,[]) (by unfold iW;rw [if_neg c1,if_pos (.inr c2)]) ?_,fun c2=>⟨⟨by omega,by omega⟩,leaf _ (⟨m,pr,P,I++ [b],U⟩,[]) (by unfold iW;rw [if_neg c1,if_neg (by rw [hv];simp;exact Int.not_le.1 c2)]) ?_⟩⟩
  all_goals simp [paR,paD,pa0,mN,dj,cF,dm,dw,cV,eX,eW,bQ,bk]
def jr (p:Pa)(b:Int):Pa × List Ac:=
 if de b=false then (pa0 0,[⟨2,0,b,0,none,some p.I⟩])
 else if 2≤(p.I.length:Int) then (pa0 3,[])
 else (⟨p.m,p.pr,p.P,p.I++ [b],p.U⟩,[])
theorem Xu {p:Pa}{b:Int}(hp:dg p)(hb:0≤b∧b≤255):eY PG 93 (paH p b) (jw p) (fun n=>paF (jr p b)):=by
 obtain ⟨m,pr,P,I,U⟩:=p
 obtain ⟨h1,h2,h3,h4,h5,h6,h7⟩:=hp
 simp only at *
 refine eY.iM tQ Jz (fun n=>by simp [AL,paH]) fun n=>?_
 unfold AL
 dsimp only [paH,jw]
 simp -implicitDefEqProofs -dsimp only [Gj,mw,List.length_set,List.take_length,yy,tN,gR,js,jE,vcR,↓an,↓ak,if_true,if_false,implies_true,simprocAttr,ne_eq,exists_eq_left,exists_eq_left',Function.comp_apply]
 have ht1:List.take (I.length+1) (I++ [b])=I++ [b]:=List.take_of_length_le (by simp)
 rw [ht1]
 have leaf:∀(x:DV) (y:Pa × List Ac),jr ⟨m,pr,P,I,U⟩ b=y→wkT x (paR y)→wkT x (paF (jr ⟨m,pr,P,I,U⟩ b)).1∧[]=(paF (jr ⟨m,pr,P,I,U⟩ b)).2:=fun x y h1 h2=>by rw [h1];exact ⟨h2,rfl⟩
 refine ⟨hb,?_⟩
 cases hv:de b
 ·rw [gD]
  refine leaf _ (pa0 0,[⟨2,0,b,0,none,some I⟩]) (by unfold jr;rw [hv,if_pos rfl]) ?_
  simp [paR,paD,pa0,mN,dj,cF,dm,dw,cV,eX,eW,bQ,bk]
 ·rw [iR]
  refine ⟨fun c2=>leaf _ (pa0 3,[]) (by unfold jr;rw [hv,if_neg (by decide),if_pos c2]) ?_,fun c2=>⟨⟨by omega,by omega⟩,leaf _ (⟨m,pr,P,I++ [b],U⟩,[]) (by unfold jr;rw [hv,if_neg (by decide),if_neg c2]) ?_⟩⟩
  all_goals simp [paR,paD,pa0,mN,dj,cF,dm,dw,cV,eX,eW,bQ,bk]
def jc (b:Int):Pa × List Ac:=
 if de b=true then (⟨2,0,[],[b],[]⟩,[])
 else if b=91 then (pa0 4,[])
 else if b=93∨b=80∨b=88∨b=94∨b=95 then (pa0 7,[])
 else (pa0 0,[⟨2,0,b,0,none,none⟩])
theorem Z2 {p:Pa}{b:Int}(hp:dg p)(hb:0≤b∧b≤255):eY PG 92 (paH p b) (jw p) (fun n=>paF (jc b)):=by
 obtain ⟨m,pr,P,I,U⟩:=p
 obtain ⟨h1,h2,h3,h4,h5,h6,h7⟩:=hp
 simp only at *
 refine eY.iM tQ Nd (fun n=>by simp [GP,paH]) fun n=>?_
 unfold GP
 dsimp only [paH,jw]
 simp -implicitDefEqProofs -dsimp only [Gj,mw,List.length_set,List.take_length,yy,tN,gR,js,jE,vcR,↓an,↓ak,if_true,if_false,implies_true,simprocAttr,ne_eq,exists_eq_left,exists_eq_left',Function.comp_apply]
 refine ⟨hb,?_⟩
 have leaf:∀(x:DV) (y:Pa × List Ac),jc b=y→wkT x (paR y)→wkT x (paF (jc b)).1∧[]=(paF (jc b)).2:=fun x y h1 h2=>by rw [h1];exact ⟨h2,rfl⟩
 cases hv:de b
 ·rw [gD]
  have e0:jc b=if b=91 then (pa0 4,[]) else if b=93∨b=80∨b=88∨b=94∨b=95 then (pa0 7,[]) else (pa0 0,[⟨2,0,b,0,none,none⟩]):=by unfold jc;rw [hv,if_neg (by decide)]
  have e1:b=91→jc b=(pa0 4,[]):=fun h=>by rw [e0,if_pos h]
  have e2:¬b=91→(b=93∨b=80∨b=88∨b=94∨b=95)→jc b=(pa0 7,[]):=fun h h2=>by rw [e0,if_neg h,if_pos h2]
  have e3:¬b=91→¬(b=93∨b=80∨b=88∨b=94∨b=95)→jc b=(pa0 0,[⟨2,0,b,0,none,none⟩]):=fun h h2=>by rw [e0,if_neg h,if_neg h2]
  refine ⟨fun c1=>leaf _ _ (e1 c1) ?_,fun c1=>⟨fun c2=>leaf _ _ (e2 c1 (by omega)) ?_,fun c2=>⟨fun c3=>leaf _ _ (e2 c1 (by omega)) ?_,fun c3=>⟨fun c4=>leaf _ _ (e2 c1 (by omega)) ?_,fun c4=>⟨fun c5=>leaf _ _ (e2 c1 (by omega)) ?_,fun c5=>?_⟩⟩⟩⟩⟩
  case acw=>exact ⟨fun c6=>leaf _ _ (e2 c1 (by omega)) (by simp [paR,paD,pa0,mN,dj,cF,dm,dw,cV,eX,eW,bQ,bk]),fun c6=>leaf _ _ (e3 c1 (by omega)) (by simp [paR,paD,pa0,mN,dj,cF,dm,dw,cV,eX,eW,bQ,bk])⟩
  all_goals simp [paR,paD,pa0,mN,dj,cF,dm,dw,cV,eX,eW,bQ,bk]
 ·rw [iR]
  refine leaf _ (⟨2,0,[],[b],[]⟩,[]) (by unfold jc;rw [hv,if_pos rfl]) ?_
  simp [paR,paD,pa0,mN,dj,cF,dm,dw,cV,eX,eW,bQ,bk]
def iN (p:Pa)(b:Int):Pa × List Ac:=(⟨p.m,p.pr,p.P,p.I,(cz p.U b).1⟩,(cz p.U b).2.map fun r=>⟨0,r,0,0,none,none⟩)
theorem RO {p:Pa}{b:Int}(hp:dg p)(hb:0≤b∧b≤255):eY PG 91 (paH p b) (jw p) (fun n=>paF (iN p b)):=by
 obtain ⟨m,pr,P,I,U⟩:=p
 obtain ⟨h1,h2,h3,h4,h5,h6,h7⟩:=hp
 simp only at *
 refine eY.iM tQ Dl (fun n=>by simp [sV,paH]) fun n=>?_
 unfold sV
 dsimp only [paH,jw]
 simp -implicitDefEqProofs -dsimp only [Gj,mw,eA,List.length_set,List.take_length,yy,tN,gR,js,jE,vcR,↓an,↓ak,if_true,if_false,implies_true,simprocAttr,ne_eq,exists_eq_left,exists_eq_left',Function.comp_apply]
 have hU:U.length≤1000000:=by omega
 refine ⟨⟨h3,hU,hb⟩,?_⟩
 have hr:=zF h3 hb hU
 have hl2:=nr U b
 have hgF:iN ⟨m,pr,P,I,U⟩ b=(⟨m,pr,P,I,(cz U b).1⟩,(cz U b).2.map fun r=>⟨0,r,0,0,none,none⟩):=rfl
 rw [hgF]
 generalize (cz U b).2=R at hr hl2 ⊢
 generalize (cz U b).1=U1
 clear hgF
 refine bp.own 8 6 rfl (.inl rfl) ?_
 refine bp.acI tQ (S:=fun k (i:Nat)=>⟨[(2,.ptr k 0 0),(4,.ptr (k+1) 0 0),(8,.own (k+2) 0 i),(20,.sl 1 (af .i32 R) .any),(21,.int .i64 R.length),(22,.int .i64 i)],
  List.replicate k none++ [some (.box [.int .i64 m,.int .u8 pr,.own (k+3) 0 P.length,.own (k+4) 0 I.length,.sl 1 (af .u8 U1) .any]),some (.box [.int .i64 0,.int .u8 0,.sl 0 [] .nil,.sl 0 [] .nil,.sl 0 [] .nil]),
   some (.arr 6 (cu ((R.take i).map fun r=>⟨0,r,0,0,none,none⟩))),some (.arr 1 (af .i64 P)),some (.arr 1 (af .u8 I))]⟩) (I:=fun i=>i≤R.length) (μ:=fun i=>R.length-i) (n+2) 0 (by omega) ?_ ?_
 ·simp -implicitDefEqProofs -dsimp only [List.take_zero,tN,gR,js,jE,vcR,↓an,↓ak,if_true,if_false,implies_true,simprocAttr,ne_eq,exists_eq_left,exists_eq_left',Function.comp_apply]
 ·intro k i hk hi
  have hL:((R.take i).map fun r=>(⟨0,r,0,0,none,none⟩:Ac)).length=i:=by rw [List.length_map,List.length_take];omega
  unfold rM
  simp -implicitDefEqProofs -dsimp only [Gj,hL,mw,eA,List.length_set,List.take_length,tN,gR,js,jE,vcR,↓an,↓ak,if_true,if_false,implies_true,simprocAttr,ne_eq,exists_eq_left,exists_eq_left',Function.comp_apply]
  refine ⟨fun h=>?_,fun h=>?_⟩
  ·have h0:i<R.length:=by omega
   refine ⟨⟨by omega,h⟩,h0,⟨by omega,by omega⟩,by omega,i+1,⟨⟨rfl,by rw [aP] <;> omega⟩,?_⟩,by omega,by omega⟩
   have hgd:R.getD i 0=R[i]:=by rw [List.getD_eq_getElem?_getD,List.getElem?_eq_getElem h0];rfl
   rw [List.take_succ_eq_append_getElem h0,List.map_append,hgd]
   rfl
  ·have h1:i=R.length:=by omega
   subst h1
   rw [List.take_length,List.take_of_length_le (by simp)]
   exact ⟨by omega,fR _,rfl⟩
def j8 (g:Pa→Int→Pa × List Ac)(q:Int→Prop):List DV→Option mZ
 | [.agg [.int .i64 m,.int .u8 pr,.own o1 f1 n1,.own o2 f2 n2,u],.int .u8 b]=>some ⟨fun T=> ¬o1=o2∧f1=0∧f2=0∧oW .i64 n1 T[o1]?∧oW .u8 n2 T[o2]?∧isS .u8 u∧dg ⟨m,pr,cG T[o1]?,cG T[o2]?,aF u⟩∧q b,
   fun T=>(paR (g ⟨m,pr,cG T[o1]?,cG T[o2]?,aF u⟩ b),oV [o1,o2] T++ [none,none])⟩
 | _=>none
theorem WZ (g:Pa→Int→Pa × List Ac)(q:Int→Prop)(m pr b:Int)(o1 f1 n1 o2 f2 n2:Nat)(u:DV):j8 g q [.agg [.int .i64 m,.int .u8 pr,.own o1 f1 n1,.own o2 f2 n2,u],.int .u8 b]=
  some ⟨fun T=> ¬o1=o2∧f1=0∧f2=0∧oW .i64 n1 T[o1]?∧oW .u8 n2 T[o2]?∧isS .u8 u∧dg ⟨m,pr,cG T[o1]?,cG T[o2]?,aF u⟩∧q b,
   fun T=>(paR (g ⟨m,pr,cG T[o1]?,cG T[o2]?,aF u⟩ b),oV [o1,o2] T++ [none,none])⟩:=au _
theorem u7 {f:Nat}{g:Pa→Int→Pa × List Ac}{q:Int→Prop}(h:∀p b,dg p→q b→eY PG f (paH p b) (jw p) (fun n=>paF (g p b)))(args:List DV)(s:mZ)(hs:j8 g q args=some s):HOk PG f args s:=by
 unfold j8 at hs
 split at hs
 ·rename_i m pr o1 f1 n1 o2 f2 n2 u b
  obtain rfl:=sj hs
  intro T K ⟨p1,p2,p3,p4,p5,p6,p7,p8⟩ hK
  subst p2 p3
  obtain ⟨e1,l1,k1⟩:=qY p4
  obtain ⟨e2,l2,k2⟩:=qY p5
  obtain ⟨e3,k3⟩:=zN p6
  refine aq.hand [o1,o2] _ (by simp [p1]) rfl (fun i o ob ho hob=>?_) (fun d hd o ho=>?_) ?_ (h _ b p7 p8) (by simpa [paF] using hK)
  ·rcases i with _ | _ | i
   ·simp [jw] at ho hob;subst ho hob;exact e1
   ·simp [jw] at ho hob;subst ho hob;exact e2
   ·simp at ho
  ·simp only [List.mem_cons,List.not_mem_nil,or_false] at hd
   rcases hd with rfl | rfl
   ·rw [e3] at ho
    simp [dW,oJ,jG] at ho
    simp;exact ho
   ·simp [dW,oJ,jG] at ho
  ·simp only [paH,List.map_cons,List.map_nil,lC,qe,nR,pos,l1,l2]
   rw [e3]
   simp [lC,qe,nR,pos,p1,aM]
 ·cases hs
end Go.Proofs.YtjmnbpilnneonaaGreatDoor
