/- Texts P20, P21, P22 in one. -/
import Derived.Test.YtjmnbpilnneonaaGreatDoorM4
import Derived.Test.YtjmnbpilnneonaaGreatDoorM3
set_option linter.unusedVariables false
set_option linter.unusedSimpArgs false
set_option maxRecDepth 10000
set_option linter.defProp false
namespace Go.Proofs.YtjmnbpilnneonaaGreatDoor
open Go.RowKit
noncomputable section
variable {b:Int}
def gL:RFn:=⟨1,8,(SR [OP 2 (.mov (.c (.sl 0 [] .nil)))] [0] (.seq (SR [MV 3 0,OP 4 (.jM false (.t 3) (.c (.sl 0 [] .nil)))] [0,4] (.cond (.t 4) (SR [OP 2 (.mov (.c (.sl 0 [] .nil)))] [2] .ret) .skip)) (SR [OP 5 (.bK 1 [.int .i64 0] 0 []),MV 6 0,OP 7 (.append 1 8 (.t 5) (.t 6)),MV 2 7] [2] .ret))),[.t 2]⟩
theorem lT:aK PG.P (aA PG.P 57 gL) 57=some gL:=by kernel_rfl
def uW:RFn:=⟨1,5,(SR [OP 2 (.alloc [.int .i64 0,.int .u8 0,.sl 0 [] .nil,.sl 0 [] .nil,.sl 0 [] .nil])] [0,2] (SR [MV 3 0,OP 4 (.build [.int .i64 0,.int .u8 0,.sl 0 [] .nil,.sl 0 [] .nil,.sl 0 [] .nil] [(0,(1,(.t 3)))]),SA 5 2 4] [2] .ret)),[.c 2 true 5]⟩
theorem GD:aK PG.P (aA PG.P 90 uW) 90=some uW:=by kernel_rfl
def rU:RFn:=⟨1,9,(SR [MB 2 false] [0] (SR [MV 3 0,OP 4 (.bin .geq (.t 3) (.c (.int .u8 32))),MV 5 4,MG 6 0 5 true,OG 7 (.bin .leq (.t 6) (.c (.int .u8 47))) 5 true,OP 8 (.pick (.t 5) (.t 7) (.c (.bool false))),MV 2 8] [2] .ret)),[.t 2]⟩
theorem Em:aK PG.P (aA PG.P 86 rU) 86=some rU:=by kernel_rfl
theorem KQ {sz:Nat}:av PG 57 [.sl sz [] .nil] fun n r os=>r=.sl 0 [] .nil/\os=[]:=by
 refine av.di (res:=fun n=>(.sl 0 [] .nil,[])) FOk.nil lT (by simp[gL]) fun n=>?_
 unfold gL
 dsimp only
 simp -implicitDefEqProofs -dsimp only[vcR,↓vcQ,if_true,if_false,implies_true,simprocAttr,ne_eq,exists_eq_left,exists_eq_left',Function.comp_apply]
theorem KP {sz:Nat}{l:List Int}(hs:sz=1\/l=[])(hk:inK .i64 l)(hl:l.length<=1000000):av PG 57 [.sl sz (af .i64 l) .gA] fun n r os=>r=.own n 0 l.length/\os=[some (.arr 1 (af .i64 l))]:=by
 refine av.di (res:=fun n=>(.own n 0 l.length,[some (.arr 1 (af .i64 l))])) FOk.nil lT (by simp[gL]) fun n=>?_
 unfold gL
 dsimp only
 simp -implicitDefEqProofs -dsimp only[vcR,↓vcQ,if_true,if_false,implies_true,simprocAttr,ne_eq,exists_eq_left,exists_eq_left',Function.comp_apply]
 exact ⟨hs.imp id fun h=>by simp[h,af],by omega,by omega⟩
theorem Ul {jQ:Nat}{k_l:SK}{l:List Int}(Av:jQ=1\/l=[])(E0:inK .i64 l)(hp:l.length<=1000000) :
  av PG 57 [.sl jQ (af .i64 l) k_l] fun n r os=>r=.own n 0 l.length/\os=[some (.arr 1 (af .i64 l))]:=by
 refine av.pS (i:=0) rfl (fun h=>?_) ?_
 ·have hn:l=[]:=by simpa [af] using h
  subst hn
  exact KQ.zk
 ·exact KP Av E0 hp
theorem Uj {jQ:Nat}{k_l:SK}{l:List Int}(Av:jQ=1\/l=[])(E0:inK .u8 l)(hp:l.length<=1000000) :
  av PG 58 [.sl jQ (af .u8 l) k_l] fun n r os=>r=.own n 0 l.length/\os=[some (.arr 1 (af .u8 l))]:=by
 refine av.pS (i:=0) rfl (fun h=>?_) ?_
 ·have hn:l=[]:=by simpa [af] using h
  subst hn
  exact AR.zk
 ·exact Ib Av E0 (by omega)
def mU:List DV->Option aS
 | [a_l]=>some ⟨aD .i64 a_l/\(aG a_l).length<=1000000,fun n=>(.own n 0 (aG a_l).length,[some (.arr 1 (af .i64 (aG a_l)))])⟩
 | _=>none
theorem ur (a_l:DV):mU [a_l]=some ⟨aD .i64 a_l/\(aG a_l).length<=1000000,fun n=>(.own n 0 (aG a_l).length,[some (.arr 1 (af .i64 (aG a_l)))])⟩:=ak _
theorem Pc (args:List DV)(s:aS)(hs:mU args=some s)(hp:s.pre):av PG 57 args fun n r os=>r=(s.res n).1/\os=(s.res n).2:=by
 unfold mU at hs
 split at hs
 ·rename_i a_l
  obtain rfl:=sj hs
  obtain ⟨tV,hp⟩:=hp
  obtain ⟨JK,tR,tY,tX,tW⟩:=aC tV
  have this:=Ul (k_l:=tR) tX tW hp
  rw[<-tY] at this
  exact this
 ·cases hs
def mT:List DV->Option aS
 | [a_l]=>some ⟨aD .u8 a_l/\(aG a_l).length<=1000000,fun n=>(.own n 0 (aG a_l).length,[some (.arr 1 (af .u8 (aG a_l)))])⟩
 | _=>none
theorem uq (a_l:DV):mT [a_l]=some ⟨aD .u8 a_l/\(aG a_l).length<=1000000,fun n=>(.own n 0 (aG a_l).length,[some (.arr 1 (af .u8 (aG a_l)))])⟩:=ak _
theorem Pb (args:List DV)(s:aS)(hs:mT args=some s)(hp:s.pre):av PG 58 args fun n r os=>r=(s.res n).1/\os=(s.res n).2:=by
 unfold mT at hs
 split at hs
 ·rename_i a_l
  obtain rfl:=sj hs
  obtain ⟨tV,hp⟩:=hp
  obtain ⟨JK,tR,tY,tX,tW⟩:=aC tV
  have this:=Uj (k_l:=tR) tX tW hp
  rw[<-tY] at this
  exact this
 ·cases hs
def cW (b:Int):Bool:=decide (32<=b) && decide (b<=47)
theorem Qy (mW:0<=b/\b<=255) :
  av PG 86 [.int .u8 b] fun n RR OO=>RR=((.bool (cW b),[]):DV × ay).1/\OO=((.bool (cW b),[]):DV × ay).2:=by
 refine av.di (res:=fun n=>(.bool (cW b),[])) Ly Em (by simp[rU]) fun n=>?_
 unfold rU
 dsimp only
 simp -implicitDefEqProofs -dsimp only[vcR,↓vcQ,if_true,if_false,implies_true,simprocAttr,ne_eq,exists_eq_left,exists_eq_left',Function.comp_apply]
 grind [cW]
def jN:List DV->Option aS
 | [.int .u8 b]=>some ⟨(0<=b/\b<=255)/\True,fun n=>(.bool (cW b),[])⟩
 | _=>none
theorem mQ (b:Int):jN [.int .u8 b]=some ⟨(0<=b/\b<=255)/\True,fun n=>(.bool (cW b),[])⟩:=ak _
theorem M0 (args:List DV)(s:aS)(hs:jN args=some s)(hp:s.pre):av PG 86 args fun n r os=>r=(s.res n).1/\os=(s.res n).2:=by
 unfold jN at hs
 split at hs
 ·rename_i b
  obtain rfl:=sj hs
  obtain ⟨mW,hp⟩:=hp
  have this:=Qy mW
  exact this
 ·cases hs
theorem Ws {m:Int}(ado:-9223372036854775808<=m/\m<=9223372036854775807) :
  av PG 90 [.int .i64 m] fun n RR OO=>RR=((.agg [.int .i64 m,.int .u8 0,.sl 0 [] .nil,.sl 0 [] .nil,.sl 0 [] .nil],[]):DV × ay).1/\OO=((.agg [.int .i64 m,.int .u8 0,.sl 0 [] .nil,.sl 0 [] .nil,.sl 0 [] .nil],[]):DV × ay).2:=by
 refine av.di (res:=fun n=>(.agg [.int .i64 m,.int .u8 0,.sl 0 [] .nil,.sl 0 [] .nil,.sl 0 [] .nil],[])) Ly GD (by simp[uW]) fun n=>?_
 unfold uW
 dsimp only
 simp -implicitDefEqProofs -dsimp only[gw,vcR,↓vcQ,if_true,if_false,implies_true,simprocAttr,ne_eq,exists_eq_left,exists_eq_left',Function.comp_apply]
def nC:List DV->Option aS
 | [.int .i64 m]=>some ⟨(-9223372036854775808<=m/\m<=9223372036854775807)/\True,fun n=>(.agg [.int .i64 m,.int .u8 0,.sl 0 [] .nil,.sl 0 [] .nil,.sl 0 [] .nil],[])⟩
 | _=>none
theorem sN (m:Int):nC [.int .i64 m]=some ⟨(-9223372036854775808<=m/\m<=9223372036854775807)/\True,fun n=>(.agg [.int .i64 m,.int .u8 0,.sl 0 [] .nil,.sl 0 [] .nil,.sl 0 [] .nil],[])⟩:=ak _
theorem Qx (args:List DV)(s:aS)(hs:nC args=some s)(hp:s.pre):av PG 90 args fun n r os=>r=(s.res n).1/\os=(s.res n).2:=by
 unfold nC at hs
 split at hs
 ·rename_i m
  obtain rfl:=sj hs
  obtain ⟨ado,hp⟩:=hp
  have this:=Ws ado
  exact this
 ·cases hs
def T20:FL:=(57,mU)::(58,mT)::(86,jN)::(90,nC)::T16
theorem Lw:FOk PG (tab T20):=FOk.cons (FOk.cons (FOk.cons (FOk.cons (Ly) Qx) M0) Pb) Pc
theorem Cx (args:List DV):tab T20 57 args=(mU args).map .o:=ak _
theorem Cw (args:List DV):tab T20 58 args=(mT args).map .o:=ak _
theorem Ct (args:List DV):tab T20 86 args=(jN args).map .o:=ak _
theorem FI (args:List DV):tab T20 90 args=(nC args).map .o:=ak _
theorem FJ (args:List DV):tab T20 67 args=(l7 args).map .o:=ak _
theorem FH (args:List DV):tab T20 110 args=(nB args).map .o:=ak _
theorem Bn (args:List DV):tab T20 54 args=(gQ args).map .o:=ak _
theorem IN (args:List DV):tab T20 60 args=(nK args).map .o:=ak _
theorem Bm (args:List DV):tab T20 50 args=(gP args).map .o:=ak _
theorem Cu (args:List DV):tab T20 89 args=(jP args).map .o:=ak _
theorem IQ (args:List DV):tab T20 83 args=(pV args).map .o:=ak _
theorem IP (args:List DV):tab T20 125 args=(pT args).map .o:=ak _
theorem Lx (args:List DV):tab T20 87 args=(qZ args).map .o:=ak _
def aas:=J @Cx<|J @ur<|J @Cw<|J @uq<|J @Ct<|J @mQ<|J @FI<|J @sN<|J @FJ<|J @oF<|J @FH<|J @sL<|J @Bn<|J @jA<|J @IN<|J @oD<|J @Bm<|J @gv<|J @Cu<|J @ji<|J @IQ<|J @oG<|J @IP<|J @oE<|J @Lx<|@fU
structure Ac where
 k:Int
 r:Int
 b:Int
 p:Int
 ps:Option (List Int)
 is:Option (List Int)
def oSl (k:IntKind):Option (List Int)->DV
 | none=> .sl 0 [] .nil
 | some l=> .sl 1 (af k l) .any
def yt (a:Ac):List DV:=[.int .i64 a.k,.int .i32 a.r,.int .u8 a.b,.int .u8 a.p,oSl .i64 a.ps,oSl .u8 a.is]
def cz (l:List Ac):List (List DV):=l.map yt
theorem Vr (k r b p:Int):[[.int .i64 k,.int .i32 r,.int .u8 b,.int .u8 p,.sl 0 [] .nil,.sl 0 [] .nil]]=cz [⟨k,r,b,p,none,none⟩]:=ak _
theorem Vq (k r b p:Int)(i:List Int):[[.int .i64 k,.int .i32 r,.int .u8 b,.int .u8 p,.sl 0 [] .nil,.sl 1 (af .u8 i) .any]]=cz [⟨k,r,b,p,none,some i⟩]:=ak _
theorem Vp (k r b p:Int)(l i:List Int):[[.int .i64 k,.int .i32 r,.int .u8 b,.int .u8 p,.sl 1 (af .i64 l) .any,.sl 1 (af .u8 i) .any]]=cz [⟨k,r,b,p,some l,some i⟩]:=ak _
theorem Li (a:Ac):[yt a]=cz [a]:=ak _
theorem Ip (a:Ac)(row:List DV):(cz [a]).set 0 row=[row]:=ak _
theorem Ir (a:Ac)(l:List Ac):yt a::cz l=cz (a::l):=ak _
theorem Lj (a b:List Ac):cz a++cz b=cz (a++b):=by simp[cz]
theorem bX:cz []=[]:=ak _
theorem iZ (a:List Ac):(cz a).length=a.length:=by simp[cz]
theorem Io (l:List Ac)(n:Nat):(cz l).take n=cz (l.take n):=by simp[cz,List.map_take]
theorem Iq (l:List Ac)(n:Nat):(cz l).drop n=cz (l.drop n):=by simp[cz,List.map_drop]
theorem PJ (a:Ac):(yt a).length=6:=ak _
theorem PI (a:Ac):(yt a).all DV.one=true:=by
 obtain ⟨k,r,b,p,ps,is⟩:=a
 cases ps <;> cases is <;> rfl
theorem SD (k:IntKind)(o:Option (List Int)):Cl (oSl k o):=by
 cases o with
 | none=>exact Cl.sl 0 [] .nil (by simp)
 | some l=>exact Cl.sl 1 _ .any (uu k l)
theorem PF (l:List Ac):gW (cz l)=True:=by
 refine eq_true fun row hrow c hc=>?_
 simp only[cz,List.mem_map] at hrow
 obtain ⟨a,_,rfl⟩:=hrow
 simp only[yt,List.mem_cons,List.not_mem_nil,or_false] at hc
 rcases hc with rfl | rfl | rfl | rfl | rfl | rfl
 ·exact Cl.int _ _
 ·exact Cl.int _ _
 ·exact Cl.int _ _
 ·exact Cl.int _ _
 ·exact SD _ _
 ·exact SD _ _
def uh:=J @Vr<|J @Vq<|J @Vp<|J @Li<|J @Ip<|J @Ir<|J @Lj<|J @bX<|J @iZ<|J @Io<|J @Iq<|J @PJ<|J @PI<|@PF
structure Pa where
 m:Int
 pr:Int
 P:List Int
 I:List Int
 U:List Int
def paD (p:Pa):DV:=.agg [.int .i64 p.m,.int .u8 p.pr,.sl 1 (af .i64 p.P) .any,.sl 1 (af .u8 p.I) .any,.sl 1 (af .u8 p.U) .any]
def pa0 (m:Int):Pa:=⟨m,0,[],[],[]⟩
def paR (x:Pa × List Ac):DV:=.tup [paD x.1,.sl 6 (cz x.2) .any]
def y6:RFn:=⟨2,16,(SR [OP 2 (.box 5 (.t 0)),OP 4 (.alloc [.int .i64 0,.int .u8 0,.sl 0 [] .nil,.sl 0 [] .nil,.sl 0 [] .nil]),OP 5 (.mov (.c (.sl 0 [] .nil)))] [1,2,4] (.seq (.cJ (.take (FA 7 1 2) [] (.take (LD 8 7) [.t 4] (.take (FA 9 2 2) [] (.take (LD 10 9) [.t 4] (.take (FA 11 3 2) [] (.take (LD 12 11) [.t 4] (.take (MV 13 1) [] (.take (OP 14 (.build [.int .i64 0,.int .i32 0,.int .u8 0,.int .u8 0,.sl 0 [] .nil,.sl 0 [] .nil] [(0,(1,(.c (.int .i64 3)))),(3,(1,(.t 8))),(4,(1,(.t 10))),(5,(1,(.t 12))),(2,(1,(.t 13)))])) [] (.alt (.op (OP 6 (.call 90 [.c (.int .i64 0)])) (.alt (.op (OP 15 (.bK 6 [.int .i64 0,.int .i32 0,.int .u8 0,.int .u8 0,.sl 0 [] .nil,.sl 0 [] .nil] 1 [(0,(.t 14))])) (.op (SA 5 4 6) (.take (MV 5 15) [] .done))) (.op (SA 5 4 6) (.op (OP 15 (.bK 6 [.int .i64 0,.int .i32 0,.int .u8 0,.int .u8 0,.sl 0 [] .nil,.sl 0 [] .nil] 1 [(0,(.t 14))])) (.take (MV 5 15) [] .done))))) (.op (OP 15 (.bK 6 [.int .i64 0,.int .i32 0,.int .u8 0,.int .u8 0,.sl 0 [] .nil,.sl 0 [] .nil] 1 [(0,(.t 14))])) (.op (OP 6 (.call 90 [.c (.int .i64 0)])) (.op (SA 5 4 6) (.take (MV 5 15) [] .done))))))))))))) 0 [4,5]) .ret)),[.c 4 true 5,.t 5]⟩
theorem JX:aK PG.P (aA PG.P 126 y6) 126=some y6:=by kernel_rfl
def jU (p:Pa)(b:Int):Pa × List Ac:=(pa0 0,[⟨3,0,b,p.pr,some p.P,some p.I⟩])
def paO (n:Nat)(x:Pa × List Ac):DV × ay:=(.tup [paD x.1,.own n 0 x.2.length],[some (.arr 6 (cz x.2))])
theorem aaB {p:Pa}:av PG 126 [paD p,.int .u8 b] fun n r os=>r=(paO n (jU p b)).1/\os=(paO n (jU p b)).2:=by
 refine av.di (res:=fun n=>paO n (jU p b)) Lw JX (by simp[y6]) fun n=>?_
 unfold y6
 dsimp only[paD,paO,jU,pa0]
 simp -implicitDefEqProofs -dsimp only[aas,uh,gw,iQ,vcR,↓vcQ,if_true,if_false,implies_true,simprocAttr,ne_eq,exists_eq_left,exists_eq_left',Function.comp_apply]
def isS (k:IntKind):DV->Prop
 | .sl sz rows .any=>sz=1/\rows=af k (ints rows)/\inK k (ints rows)
 | _=>False
theorem mH (k:IntKind)(l:List Int):isS k (.sl 1 (af k l) .any)=inK k l:=by simp[isS,eG]
theorem zm {k:IntKind}{d:DV}(h:isS k d):d=.sl 1 (af k (aG d)) .any/\inK k (aG d):=by
 unfold isS at h
 split at h
 ·obtain ⟨rfl,h1,h2⟩:=h
  refine ⟨?_,h2⟩
  simp only[aG]
  rw[<-h1]
 ·exact h.elim
def xJ:List DV->Option aS
 | [.agg [.int .i64 m,.int .u8 pr,x,y,z],.int .u8 b]=>some ⟨isS .i64 x/\isS .u8 y/\isS .u8 z,fun n=>(.tup [.agg [.int .i64 0,.int .u8 0,.sl 1 [] .any,.sl 1 [] .any,.sl 1 [] .any],.own n 0 1],[some (.arr 6 (cz [⟨3,0,b,pr,some (aG x),some (aG y)⟩]))])⟩
 | _=>none
theorem I3 (m pr b:Int)(x y z:DV):xJ [.agg [.int .i64 m,.int .u8 pr,x,y,z],.int .u8 b]=some ⟨isS .i64 x/\isS .u8 y/\isS .u8 z,fun n=>(.tup [.agg [.int .i64 0,.int .u8 0,.sl 1 [] .any,.sl 1 [] .any,.sl 1 [] .any],.own n 0 1],[some (.arr 6 (cz [⟨3,0,b,pr,some (aG x),some (aG y)⟩]))])⟩:=ak _
theorem WC (args:List DV)(s:aS)(hs:xJ args=some s)(hp:s.pre):av PG 126 args fun n r os=>r=(s.res n).1/\os=(s.res n).2:=by
 unfold xJ at hs
 split at hs
 ·rename_i m pr x y z b
  obtain rfl:=sj hs
  obtain ⟨h1,h2,h3⟩:=hp
  obtain ⟨e1,_⟩:=zm h1
  obtain ⟨e2,_⟩:=zm h2
  obtain ⟨e3,_⟩:=zm h3
  have:=aaB (p:=⟨m,pr,aG x,aG y,aG z⟩) (b:=b)
  unfold paD at this
  simp only at this
  rw[<-e1,<-e2,<-e3] at this
  exact this
 ·cases hs
def T21:FL:=(126,xJ)::T20
theorem um:FOk PG (tab T21):=FOk.cons (Lw) WC
theorem IJ (args:List DV):tab T21 126 args=(xJ args).map .o:=ak _
theorem Cs (args:List DV):tab T21 57 args=(mU args).map .o:=ak _
theorem Cr (args:List DV):tab T21 58 args=(mT args).map .o:=ak _
theorem Cp (args:List DV):tab T21 86 args=(jN args).map .o:=ak _
theorem FD (args:List DV):tab T21 90 args=(nC args).map .o:=ak _
theorem FE (args:List DV):tab T21 67 args=(l7 args).map .o:=ak _
theorem FC (args:List DV):tab T21 110 args=(nB args).map .o:=ak _
theorem Bl (args:List DV):tab T21 54 args=(gQ args).map .o:=ak _
theorem IK (args:List DV):tab T21 60 args=(nK args).map .o:=ak _
theorem Bk (args:List DV):tab T21 50 args=(gP args).map .o:=ak _
theorem Cq (args:List DV):tab T21 89 args=(jP args).map .o:=ak _
theorem IM (args:List DV):tab T21 83 args=(pV args).map .o:=ak _
theorem IL (args:List DV):tab T21 125 args=(pT args).map .o:=ak _
theorem Lv (args:List DV):tab T21 87 args=(qZ args).map .o:=ak _
def DO:=J @IJ<|J @I3<|J @Cs<|J @ur<|J @Cr<|J @uq<|J @Cp<|J @mQ<|J @FD<|J @sN<|J @FE<|J @oF<|J @FC<|J @sL<|J @Bl<|J @jA<|J @IK<|J @oD<|J @Bk<|J @gv<|J @Cq<|J @ji<|J @IM<|J @oG<|J @IL<|J @oE<|J @Lv<|@fU
def y5:RFn:=⟨2,87,(SR [OP 2 (.box 5 (.t 0)),OP 4 (.alloc [.int .i64 0,.int .u8 0,.sl 0 [] .nil,.sl 0 [] .nil,.sl 0 [] .nil]),OP 5 (.mov (.c (.sl 0 [] .nil)))] [1,2,4] (.seq (.blk 0 (SR [MV 8 1,OP 9 (.call 86 [.t 8]),MV 7 9] [1,2,4,7] (.cond (.t 7) (SR [MV 10 1,OP 11 (.bK 1 [.int .u8 0] 1 [(0,(.t 10))]),FA 12 0 2,NP (.store 1 (.t 12) (.c (.int .i64 5))),FA 13 3 2,SA 1 13 11] [2,4] (SR [LT 14 5 2,SA 5 4 14,OP 5 (.mov (.c (.sl 0 [] .nil)))] [4,5] .ret)) (SR [MV 16 1,OP 17 (.bin .geq (.t 16) (.c (.int .u8 64))),MV 15 17] [1,2,4,15] (.cond (.t 15) (SR [⟨some 18,.load true 5 (.t 2),none,true⟩,MV 19 1,OP 20 (.call 126 [.t 18,.t 19]),OP 21 (.ext (.t 20) 0),OP 22 (.ext (.t 20) 1),SA 5 4 21,MV 5 22] [4,5] .ret) (SR [MV 24 1,OP 25 (.bin .eql (.t 24) (.c (.int .u8 58))),MV 26 25,MG 27 1 26 false,OG 28 (.bin .gtr (.t 27) (.c (.int .u8 59))) 26 false,MG 29 28 26 false,FG 30 2 2 29 true,LG 31 30 29 true,OG 32 (.len (.t 31)) 29 true,OG 33 (.bin .gtr (.t 32) (.c (.int .i64 0))) 29 true,MG 34 33 29 true,FG 35 1 2 34 false,LG 36 35 34 false,OG 37 (.bin .neq (.t 36) (.c (.int .u8 0))) 34 false,OG 38 (.pick (.t 34) (.c (.bool true)) (.t 37)) 29 true,OG 39 (.pick (.t 29) (.t 38) (.c (.bool false))) 26 false,OP 40 (.pick (.t 26) (.c (.bool true)) (.t 39)),MV 23 40] [1,2,4,23] (.cond (.t 23) (SR [OP 41 (.call 90 [.c (.int .i64 6)]),SA 5 4 41,OP 5 (.mov (.c (.sl 0 [] .nil)))] [4,5] .ret) (SR [MV 43 1,OP 44 (.bin .gtr (.t 43) (.c (.int .u8 59))),MV 42 44] [1,2,4,42] (.cond (.t 42) (SR [MV 45 1,FA 46 1 2,SA 1 46 45] [2,4] (SR [LT 47 5 2,SA 5 4 47,OP 5 (.mov (.c (.sl 0 [] .nil)))] [4,5] .ret)) .skip))))))))) (.seq (SR [FA 48 2 2,LD 49 48,OP 50 (.len (.t 49)),BI 51 .eql 50 0] [1,2,4,51] (.cond (.t 51) (.reg [OP 52 (.bK 1 [.int .i64 0] 1 [(0,(.c (.int .i64 0)))]),FA 53 2 2,SA 1 53 52] 0 [1,2,4]) .skip)) (SR [FA 54 2 2,LD 55 54,FA 56 2 2,LD 57 56,OP 58 (.len (.t 57)),BI 59 .sub 58 1,OP 60 (.aT 1 (.t 55) (.t 59)),MV 6 60] [1,2,4,6] (.seq (.blk 1 (SR [MV 67 1,OP 68 (.bin .neq (.t 67) (.c (.int .u8 59))),MV 66 68] [1,2,4,6,66] (.cond (.t 66) (.reg [MV 69 6,MV 70 6,OP 71 (.aF (.t 70)),LD 72 71,OP 73 (.bin .mul (.c (.int .i64 10)) (.t 72)),MV 74 1,OP 75 (.bin .sub (.t 74) (.c (.int .u8 48))),OP 76 (.conv (.i2i .i64) (.t 75)),BT 77 .add 73 76,OP 78 (.mm false (.t 77) (.c (.int .i64 65535))),OP 79 (.aF (.t 69)),SA 1 79 78] 0 [2,4]) (SR [FA 81 2 2,LD 82 81,OP 83 (.len (.t 82)),BI 84 .geq 83 16,MV 80 84] [2,4,80] (.cond (.t 80) (SR [OP 85 (.call 90 [.c (.int .i64 6)]),SA 5 4 85,OP 5 (.mov (.c (.sl 0 [] .nil)))] [4,5] .ret) (.reg [FA 61 2 2,LD 62 61,OP 63 (.bK 1 [.int .i64 0] 1 [(0,(.c (.int .i64 0)))]),OP 64 (.append 1 8 (.t 62) (.t 63)),FA 65 2 2,SA 1 65 64] 0 [2,4])))))) (SR [LT 86 5 2,SA 5 4 86,OP 5 (.mov (.c (.sl 0 [] .nil)))] [4,5] .ret)))))),[.c 4 true 5,.t 5]⟩
theorem JW:aK PG.P (aA PG.P 94 y5) 94=some y5:=by kernel_rfl
def mX (P:List Int)(b:Int):List Int:=P.set (P.length-1) (min (10*P.getD (P.length-1) 0+(b-48)) 65535)
def gX (p:Pa)(b:Int):Pa × List Ac:=
 if cW b=true then (⟨5,p.pr,p.P,[b],p.U⟩,[])
 else if 64<=b then jU p b
 else if b=58\/(59<b/\(0<(p.P.length:Int)\/p.pr≠0)) then (pa0 6,[])
 else if 59<b then (⟨p.m,b,p.P,p.I,p.U⟩,[])
 else if (p.P.length:Int)=0 then (if b=59 then (⟨p.m,p.pr,[0,0],p.I,p.U⟩,[]) else (⟨p.m,p.pr,[min (b-48) 65535],p.I,p.U⟩,[]))
 else if b=59 then (if 16<=(p.P.length:Int) then (pa0 6,[]) else (⟨p.m,p.pr,p.P++ [0],p.I,p.U⟩,[]))
 else (⟨p.m,p.pr,mX p.P b,p.I,p.U⟩,[])
theorem mZ {p:Pa}(hv:cW b=false):gX p b=if 64<=b then jU p b
 else if b=58\/(59<b/\(0<(p.P.length:Int)\/p.pr≠0)) then (pa0 6,[])
 else if 59<b then (⟨p.m,b,p.P,p.I,p.U⟩,[])
 else if (p.P.length:Int)=0 then (if b=59 then (⟨p.m,p.pr,[0,0],p.I,p.U⟩,[]) else (⟨p.m,p.pr,[min (b-48) 65535],p.I,p.U⟩,[]))
 else if b=59 then (if 16<=(p.P.length:Int) then (pa0 6,[]) else (⟨p.m,p.pr,p.P++ [0],p.I,p.U⟩,[]))
 else (⟨p.m,p.pr,mX p.P b,p.I,p.U⟩,[]):=by
 unfold gX
 rw[hv,if_neg (by decide)]
theorem WB {p:Pa}(hv:cW b=false)(h:64<=b):gX p b=jU p b:=by rw[mZ hv,if_pos h]
theorem D3 {p:Pa}(hv:cW b=false)(h:¬64<=b)(h2:b=58\/(59<b/\(0<(p.P.length:Int)\/p.pr≠0))):gX p b=(pa0 6,[]):=by rw[mZ hv,if_neg h,if_pos h2]
theorem WA {p:Pa}(hv:cW b=false)(h:¬64<=b)(h2:¬(b=58\/(59<b/\(0<(p.P.length:Int)\/p.pr≠0))))(h3:59<b):gX p b=(⟨p.m,b,p.P,p.I,p.U⟩,[]):=by rw[mZ hv,if_neg h,if_neg h2,if_pos h3]
theorem Wz {p:Pa}(hv:cW b=false)(h:b=59)(h4:(p.P.length:Int)=0):gX p b=(⟨p.m,p.pr,[0,0],p.I,p.U⟩,[]):=by
 rw[mZ hv,if_neg (by omega),if_neg (by omega),if_neg (by omega),if_pos h4,if_pos h]
theorem Wy {p:Pa}(hv:cW b=false)(h:b<58)(h4:(p.P.length:Int)=0):gX p b=(⟨p.m,p.pr,[min (b-48) 65535],p.I,p.U⟩,[]):=by
 rw[mZ hv,if_neg (by omega),if_neg (by omega),if_neg (by omega),if_pos h4,if_neg (by omega)]
theorem Wx {p:Pa}(hv:cW b=false)(h:b=59)(h4:¬(p.P.length:Int)=0)(h5:16<=(p.P.length:Int)):gX p b=(pa0 6,[]):=by
 rw[mZ hv,if_neg (by omega),if_neg (by omega),if_neg (by omega),if_neg h4,if_pos h,if_pos h5]
theorem Ww {p:Pa}(hv:cW b=false)(h:b=59)(h4:¬(p.P.length:Int)=0)(h5:¬16<=(p.P.length:Int)):gX p b=(⟨p.m,p.pr,p.P++ [0],p.I,p.U⟩,[]):=by
 rw[mZ hv,if_neg (by omega),if_neg (by omega),if_neg (by omega),if_neg h4,if_pos h,if_neg h5]
theorem Wv {p:Pa}(hv:cW b=false)(h:b<58)(h4:¬(p.P.length:Int)=0):gX p b=(⟨p.m,p.pr,mX p.P b,p.I,p.U⟩,[]):=by
 rw[mZ hv,if_neg (by omega),if_neg (by omega),if_neg (by omega),if_neg h4,if_neg (by omega)]
def paH (p:Pa)(b:Int)(n:Nat):List DV:=[.agg [.int .i64 p.m,.int .u8 p.pr,.own n 0 p.P.length,.own (n+1) 0 p.I.length,.sl 1 (af .u8 p.U) .any],.int .u8 b]
def jH (p:Pa):List Ob:=[.arr 1 (af .i64 p.P),.arr 1 (af .u8 p.I)]
def cS (p:Pa):Prop:=inK .i64 p.P/\inK .u8 p.I/\inK .u8 p.U/\p.P.length<=1000/\p.I.length<=1000/\p.U.length<=1000/\∀n∈p.P,0<=n/\n<=65535
theorem yd:IntKind.i64.wrap 0=0:=by decide
def paF (x:Pa × List Ac):DV × ay:=(paR x,[])
theorem aaA {p:Pa}(hp:cS p)(hb:32<=b/\b<=255):eZ PG 94 (paH p b) (jH p) (fun n=>paF (gX p b)):=by
 obtain ⟨m,pr,P,I,U⟩:=p
 obtain ⟨h1,h2,h3,h4,h5,h6,h7⟩:=hp
 simp only at *
 refine eZ.iR um JW (fun n=>by simp[y5,paH]) fun n=>?_
 unfold y5
 dsimp only[paH,jH]
 simp -implicitDefEqProofs -dsimp only[DO,mH,List.length_set,List.take_length,yd,uh,gw,iQ,iT,vcR,↓vcQ,if_true,if_false,implies_true,simprocAttr,ne_eq,exists_eq_left,exists_eq_left',Function.comp_apply]
 have hb':0<=b/\b<=255:=by omega
 refine ⟨hb', ?_⟩
 have ht1:List.take (P.length+1) (P++ [0])=P++ [0]:=List.take_of_length_le (by simp)
 have ht2:∀k v,List.take P.length (P.set k v)=P.set k v:=fun k v=>List.take_of_length_le (by simp)
 simp only[ht1,ht2]
 cases hv:cW b
 ·have h48:48<=b:=by
   simp only[cW,Bool.and_eq_false_iff,decide_eq_false_iff_not] at hv;omega
  have hw8:IntKind.u8.wrap (b-48)=b-48:=wU8 (by omega) (by omega)
  have hw9:IntKind.i64.wrap (b-48)=b-48:=aO (by omega) (by omega)
  have ac4:IntKind.i64.wrap (0+(b-48))=b-48:=by rw[Int.zero_add];exact hw9
  have OE:IntKind.i64.wrap ((P.length:Int)-1)=(P.length:Int)-1:=aO (by omega) (by omega)
  have OD:((P.length:Int)-1).toNat=P.length-1:=by omega
  have hd:0<P.length->min (IntKind.i64.wrap (IntKind.i64.wrap (10*P.getD (P.length-1) 0)+(b-48))) 65535=min (10*P.getD (P.length-1) 0+(b-48)) 65535:=fun h=>by
   have hmem:P.getD (P.length-1) 0∈P:=by
    rw[List.getD_eq_getElem?_getD,List.getElem?_eq_getElem (by omega)]
    exact List.getElem_mem _
   have:=h7 _ hmem
   rw[aO (n:=10*P.getD (P.length-1) 0) (by omega) (by omega),aO (by omega) (by omega)]
  simp only[hw8,hw9,ac4,OE,OD,gm]
  clear h7 hw8 hw9 ac4 OE OD ht1 ht2
  have leaf:∀(x:DV) (y:Pa × List Ac),gX ⟨m,pr,P,I,U⟩ b=y->wkT x (paR y)->wkT x (paF (gX ⟨m,pr,P,I,U⟩ b)).1/\[]=(paF (gX ⟨m,pr,P,I,U⟩ b)).2:=fun x y h1 h2=>by rw[h1];exact ⟨h2,rfl⟩
  refine ⟨fun c1=>⟨⟨h1,h2,h3⟩,leaf _ _ (WB hv c1) (fK _)⟩,fun c1=>⟨fun c2=>leaf _ _ (D3 hv c1 (.inl c2)) ?_,fun c2=>⟨fun c3=>⟨fun c4=>leaf _ _ (D3 hv c1 (.inr ⟨c3,.inl c4⟩)) ?_,fun c4=>⟨fun c5=>⟨fun c6=>leaf _ _ (WA hv c1 (by
   show ¬(b=58\/(59<b/\(0<(P.length:Int)\/pr≠0)))
   omega) c3) ?_,fun c6=>absurd c3 c6⟩,fun c5=>leaf _ _ (D3 hv c1 (.inr ⟨c3,.inr c5⟩)) ?_⟩⟩,fun c3=>?_⟩⟩⟩
  case refine_5=>
   have hc2:¬b=58:=c2
   refine ⟨fun c6=>absurd c6 c3,fun _=>⟨fun c7=>⟨fun c8=>leaf _ _ (Wz hv c8 c7) ?_,fun c8=>leaf _ _ (Wy hv (by omega) c7) ?_⟩,fun c7=>⟨⟨by omega,by omega⟩,fun c8=>⟨fun c9=>leaf _ _ (Wx hv c8 c7 c9) ?_,fun c9=>⟨⟨by omega,by omega⟩,leaf _ _ (Ww hv c8 c7 c9) ?_⟩⟩,fun c8=>⟨by omega,by omega,leaf _ _ (Wv hv (by omega) c7) ?_⟩⟩⟩⟩
   case refine_5=>
    rw[hd (by omega)]
    simp[paR,paD,pa0,mX,dH,cL,dI,dJ,dA,ff,fe,bX,bu]
   all_goals simp[paR,paD,pa0,mX,dH,cL,dI,dJ,dA,ff,fe,bX,bu]
  all_goals simp[paR,paD,pa0,mX,dH,cL,dI,dJ,dA,ff,fe,bX,bu]
 ·rw[iB]
  have:gX ⟨m,pr,P,I,U⟩ b=(⟨5,pr,P,[b],U⟩,[]):=by unfold gX;rw[hv,if_pos rfl]
  rw[this]
  simp[paF,paR,paD,dH,cL,dI,dJ,dA,ff,fe,bX]
def uY:RFn:=⟨2,32,(SR [OP 2 (.box 5 (.t 0)),OP 4 (.alloc [.int .i64 0,.int .u8 0,.sl 0 [] .nil,.sl 0 [] .nil,.sl 0 [] .nil]),OP 5 (.mov (.c (.sl 0 [] .nil)))] [1,2,4] (.seq (.blk 0 (SR [MV 7 1,OP 8 (.bin .geq (.t 7) (.c (.int .u8 64))),MV 6 8] [1,2,4,6] (.cond (.t 6) (SR [⟨some 9,.load true 5 (.t 2),none,true⟩,MV 10 1,OP 11 (.call 126 [.t 9,.t 10]),OP 12 (.ext (.t 11) 0),OP 13 (.ext (.t 11) 1),SA 5 4 12,MV 5 13] [4,5] .ret) (SR [MV 15 1,OP 16 (.call 86 [.t 15]),OP 17 (.un .not (.t 16)),MV 18 17,FG 19 3 2 18 false,LG 20 19 18 false,OG 21 (.len (.t 20)) 18 false,OG 22 (.bin .geq (.t 21) (.c (.int .i64 2))) 18 false,OP 23 (.pick (.t 18) (.c (.bool true)) (.t 22)),MV 14 23] [1,2,4,14] (.cond (.t 14) (SR [OP 24 (.call 90 [.c (.int .i64 6)]),SA 5 4 24,OP 5 (.mov (.c (.sl 0 [] .nil)))] [4,5] .ret) .skip))))) (SR [FA 25 3 2,LD 26 25,MV 27 1,OP 28 (.bK 1 [.int .u8 0] 1 [(0,(.t 27))]),OP 29 (.append 1 1 (.t 26) (.t 28)),FA 30 3 2,SA 1 30 29] [2,4] (SR [LT 31 5 2,SA 5 4 31,OP 5 (.mov (.c (.sl 0 [] .nil)))] [4,5] .ret)))),[.c 4 true 5,.t 5]⟩
theorem GG:aK PG.P (aA PG.P 95 uY) 95=some uY:=by kernel_rfl
def uX:RFn:=⟨2,29,(SR [OP 2 (.box 5 (.t 0)),OP 4 (.alloc [.int .i64 0,.int .u8 0,.sl 0 [] .nil,.sl 0 [] .nil,.sl 0 [] .nil]),OP 5 (.mov (.c (.sl 0 [] .nil)))] [1,2,4] (.seq (.blk 0 (SR [MV 7 1,OP 8 (.call 86 [.t 7]),OP 9 (.un .not (.t 8)),MV 6 9] [1,2,4,6] (.cond (.t 6) (.seq (.cJ (.take (FA 11 3 2) [] (.alt (.op (OP 10 (.call 90 [.c (.int .i64 0)])) (.alt (.op ⟨some 12,.load false 1 (.t 11),none,true⟩ (.take (MV 13 1) [] (.take (OP 14 (.build [.int .i64 0,.int .i32 0,.int .u8 0,.int .u8 0,.sl 0 [] .nil,.sl 0 [] .nil] [(0,(1,(.c (.int .i64 2)))),(5,(1,(.t 12))),(2,(1,(.t 13)))])) [] (.alt (.op (OP 15 (.bK 6 [.int .i64 0,.int .i32 0,.int .u8 0,.int .u8 0,.sl 0 [] .nil,.sl 0 [] .nil] 1 [(0,(.t 14))])) (.op (SA 5 4 10) (.take (MV 5 15) [] .done))) (.op (SA 5 4 10) (.op (OP 15 (.bK 6 [.int .i64 0,.int .i32 0,.int .u8 0,.int .u8 0,.sl 0 [] .nil,.sl 0 [] .nil] 1 [(0,(.t 14))])) (.take (MV 5 15) [] .done))))))) (.alt (.op (MV 13 1) (.alt (.op ⟨some 12,.load false 1 (.t 11),none,true⟩ (.take (OP 14 (.build [.int .i64 0,.int .i32 0,.int .u8 0,.int .u8 0,.sl 0 [] .nil,.sl 0 [] .nil] [(0,(1,(.c (.int .i64 2)))),(5,(1,(.t 12))),(2,(1,(.t 13)))])) [] (.alt (.op (OP 15 (.bK 6 [.int .i64 0,.int .i32 0,.int .u8 0,.int .u8 0,.sl 0 [] .nil,.sl 0 [] .nil] 1 [(0,(.t 14))])) (.op (SA 5 4 10) (.take (MV 5 15) [] .done))) (.op (SA 5 4 10) (.op (OP 15 (.bK 6 [.int .i64 0,.int .i32 0,.int .u8 0,.int .u8 0,.sl 0 [] .nil,.sl 0 [] .nil] 1 [(0,(.t 14))])) (.take (MV 5 15) [] .done)))))) (.op (SA 5 4 10) (.op ⟨some 12,.load false 1 (.t 11),none,true⟩ (.take (OP 14 (.build [.int .i64 0,.int .i32 0,.int .u8 0,.int .u8 0,.sl 0 [] .nil,.sl 0 [] .nil] [(0,(1,(.c (.int .i64 2)))),(5,(1,(.t 12))),(2,(1,(.t 13)))])) [] (.op (OP 15 (.bK 6 [.int .i64 0,.int .i32 0,.int .u8 0,.int .u8 0,.sl 0 [] .nil,.sl 0 [] .nil] 1 [(0,(.t 14))])) (.take (MV 5 15) [] .done))))))) (.op (SA 5 4 10) (.alt (.op ⟨some 12,.load false 1 (.t 11),none,true⟩ (.take (MV 13 1) [] (.take (OP 14 (.build [.int .i64 0,.int .i32 0,.int .u8 0,.int .u8 0,.sl 0 [] .nil,.sl 0 [] .nil] [(0,(1,(.c (.int .i64 2)))),(5,(1,(.t 12))),(2,(1,(.t 13)))])) [] (.op (OP 15 (.bK 6 [.int .i64 0,.int .i32 0,.int .u8 0,.int .u8 0,.sl 0 [] .nil,.sl 0 [] .nil] 1 [(0,(.t 14))])) (.take (MV 5 15) [] .done))))) (.op (MV 13 1) (.op ⟨some 12,.load false 1 (.t 11),none,true⟩ (.take (OP 14 (.build [.int .i64 0,.int .i32 0,.int .u8 0,.int .u8 0,.sl 0 [] .nil,.sl 0 [] .nil] [(0,(1,(.c (.int .i64 2)))),(5,(1,(.t 12))),(2,(1,(.t 13)))])) [] (.op (OP 15 (.bK 6 [.int .i64 0,.int .i32 0,.int .u8 0,.int .u8 0,.sl 0 [] .nil,.sl 0 [] .nil] 1 [(0,(.t 14))])) (.take (MV 5 15) [] .done)))))))))) (.alt (.op ⟨some 12,.load false 1 (.t 11),none,true⟩ (.take (MV 13 1) [] (.take (OP 14 (.build [.int .i64 0,.int .i32 0,.int .u8 0,.int .u8 0,.sl 0 [] .nil,.sl 0 [] .nil] [(0,(1,(.c (.int .i64 2)))),(5,(1,(.t 12))),(2,(1,(.t 13)))])) [] (.alt (.op (OP 10 (.call 90 [.c (.int .i64 0)])) (.alt (.op (OP 15 (.bK 6 [.int .i64 0,.int .i32 0,.int .u8 0,.int .u8 0,.sl 0 [] .nil,.sl 0 [] .nil] 1 [(0,(.t 14))])) (.op (SA 5 4 10) (.take (MV 5 15) [] .done))) (.op (SA 5 4 10) (.op (OP 15 (.bK 6 [.int .i64 0,.int .i32 0,.int .u8 0,.int .u8 0,.sl 0 [] .nil,.sl 0 [] .nil] 1 [(0,(.t 14))])) (.take (MV 5 15) [] .done))))) (.op (OP 15 (.bK 6 [.int .i64 0,.int .i32 0,.int .u8 0,.int .u8 0,.sl 0 [] .nil,.sl 0 [] .nil] 1 [(0,(.t 14))])) (.op (OP 10 (.call 90 [.c (.int .i64 0)])) (.op (SA 5 4 10) (.take (MV 5 15) [] .done)))))))) (.op (MV 13 1) (.alt (.op (OP 10 (.call 90 [.c (.int .i64 0)])) (.alt (.op ⟨some 12,.load false 1 (.t 11),none,true⟩ (.take (OP 14 (.build [.int .i64 0,.int .i32 0,.int .u8 0,.int .u8 0,.sl 0 [] .nil,.sl 0 [] .nil] [(0,(1,(.c (.int .i64 2)))),(5,(1,(.t 12))),(2,(1,(.t 13)))])) [] (.alt (.op (OP 15 (.bK 6 [.int .i64 0,.int .i32 0,.int .u8 0,.int .u8 0,.sl 0 [] .nil,.sl 0 [] .nil] 1 [(0,(.t 14))])) (.op (SA 5 4 10) (.take (MV 5 15) [] .done))) (.op (SA 5 4 10) (.op (OP 15 (.bK 6 [.int .i64 0,.int .i32 0,.int .u8 0,.int .u8 0,.sl 0 [] .nil,.sl 0 [] .nil] 1 [(0,(.t 14))])) (.take (MV 5 15) [] .done)))))) (.op (SA 5 4 10) (.op ⟨some 12,.load false 1 (.t 11),none,true⟩ (.take (OP 14 (.build [.int .i64 0,.int .i32 0,.int .u8 0,.int .u8 0,.sl 0 [] .nil,.sl 0 [] .nil] [(0,(1,(.c (.int .i64 2)))),(5,(1,(.t 12))),(2,(1,(.t 13)))])) [] (.op (OP 15 (.bK 6 [.int .i64 0,.int .i32 0,.int .u8 0,.int .u8 0,.sl 0 [] .nil,.sl 0 [] .nil] 1 [(0,(.t 14))])) (.take (MV 5 15) [] .done))))))) (.op ⟨some 12,.load false 1 (.t 11),none,true⟩ (.take (OP 14 (.build [.int .i64 0,.int .i32 0,.int .u8 0,.int .u8 0,.sl 0 [] .nil,.sl 0 [] .nil] [(0,(1,(.c (.int .i64 2)))),(5,(1,(.t 12))),(2,(1,(.t 13)))])) [] (.alt (.op (OP 10 (.call 90 [.c (.int .i64 0)])) (.alt (.op (OP 15 (.bK 6 [.int .i64 0,.int .i32 0,.int .u8 0,.int .u8 0,.sl 0 [] .nil,.sl 0 [] .nil] 1 [(0,(.t 14))])) (.op (SA 5 4 10) (.take (MV 5 15) [] .done))) (.op (SA 5 4 10) (.op (OP 15 (.bK 6 [.int .i64 0,.int .i32 0,.int .u8 0,.int .u8 0,.sl 0 [] .nil,.sl 0 [] .nil] 1 [(0,(.t 14))])) (.take (MV 5 15) [] .done))))) (.op (OP 15 (.bK 6 [.int .i64 0,.int .i32 0,.int .u8 0,.int .u8 0,.sl 0 [] .nil,.sl 0 [] .nil] 1 [(0,(.t 14))])) (.op (OP 10 (.call 90 [.c (.int .i64 0)])) (.op (SA 5 4 10) (.take (MV 5 15) [] .done)))))))))))) 0 [4,5]) .ret) (SR [FA 17 3 2,LD 18 17,OP 19 (.len (.t 18)),BI 20 .geq 19 2,MV 16 20] [1,2,4,16] (.cond (.t 16) (SR [OP 21 (.call 90 [.c (.int .i64 3)]),SA 5 4 21,OP 5 (.mov (.c (.sl 0 [] .nil)))] [4,5] .ret) .skip))))) (SR [FA 22 3 2,LD 23 22,MV 24 1,OP 25 (.bK 1 [.int .u8 0] 1 [(0,(.t 24))]),OP 26 (.append 1 1 (.t 23) (.t 25)),FA 27 3 2,SA 1 27 26] [2,4] (SR [LT 28 5 2,SA 5 4 28,OP 5 (.mov (.c (.sl 0 [] .nil)))] [4,5] .ret)))),[.c 4 true 5,.t 5]⟩
theorem GF:aK PG.P (aA PG.P 93 uX) 93=some uX:=by kernel_rfl
def y4:RFn:=⟨2,32,(SR [OP 2 (.box 5 (.t 0)),OP 4 (.alloc [.int .i64 0,.int .u8 0,.sl 0 [] .nil,.sl 0 [] .nil,.sl 0 [] .nil]),OP 5 (.mov (.c (.sl 0 [] .nil)))] [1,4] (.seq (.blk 0 (SR [MV 7 1,OP 8 (.call 86 [.t 7]),MV 6 8] [1,4,6] (.cond (.t 6) (SR [MV 9 1,OP 10 (.bK 1 [.int .u8 0] 1 [(0,(.t 9))]),OP 11 (.build [.int .i64 0,.int .u8 0,.sl 0 [] .nil,.sl 0 [] .nil,.sl 0 [] .nil] [(0,(1,(.c (.int .i64 2)))),(3,(1,(.t 10)))]),SA 5 4 11,OP 5 (.mov (.c (.sl 0 [] .nil)))] [4,5] .ret) (SR [MV 13 1,OP 14 (.bin .eql (.t 13) (.c (.int .u8 91))),MV 12 14] [1,4,12] (.cond (.t 12) (SR [OP 15 (.call 90 [.c (.int .i64 4)]),SA 5 4 15,OP 5 (.mov (.c (.sl 0 [] .nil)))] [4,5] .ret) (.seq (SR [MV 17 1,OP 18 (.bin .eql (.t 17) (.c (.int .u8 93))),MV 16 18] [1,4,16] (.cond (.t 16) .skip (SR [MV 19 1,OP 20 (.bin .eql (.t 19) (.c (.int .u8 80))),MV 16 20] [1,4,16] (.cond (.t 16) .skip (SR [MV 21 1,OP 22 (.bin .eql (.t 21) (.c (.int .u8 88))),MV 16 22] [1,4,16] (.cond (.t 16) .skip (SR [MV 23 1,OP 24 (.bin .eql (.t 23) (.c (.int .u8 94))),MV 16 24] [1,4,16] (.cond (.t 16) .skip (.reg [MV 25 1,OP 26 (.bin .eql (.t 25) (.c (.int .u8 95))),MV 16 26] 0 [1,4,16]))))))))) (.cond (.t 16) (SR [OP 27 (.call 90 [.c (.int .i64 7)]),SA 5 4 27,OP 5 (.mov (.c (.sl 0 [] .nil)))] [4,5] .ret) .skip))))))) (SR [OP 28 (.call 90 [.c (.int .i64 0)]),MV 29 1,OP 30 (.build [.int .i64 0,.int .i32 0,.int .u8 0,.int .u8 0,.sl 0 [] .nil,.sl 0 [] .nil] [(0,(1,(.c (.int .i64 2)))),(2,(1,(.t 29)))]),OP 31 (.bK 6 [.int .i64 0,.int .i32 0,.int .u8 0,.int .u8 0,.sl 0 [] .nil,.sl 0 [] .nil] 1 [(0,(.t 30))]),SA 5 4 28,MV 5 31] [4,5] .ret))),[.c 4 true 5,.t 5]⟩
theorem JV:aK PG.P (aA PG.P 92 y4) 92=some y4:=by kernel_rfl
def s9:RC:=(SR [BT 23 .lss 22 21] [2,4,8,20,21,22,23] (.seq (.cond (.t 23) .skip (.ext 0)) (.seq (.blk 1 (SR [OP 24 (.aT 1 (.t 20) (.t 22)),LD 25 24,MV 10 25] [2,4,8,10,20,21,22] (.reg [MV 26 8,MV 27 10,OP 28 (.build [.int .i64 0,.int .i32 0,.int .u8 0,.int .u8 0,.sl 0 [] .nil,.sl 0 [] .nil] [(0,(1,(.c (.int .i64 0)))),(1,(1,(.t 27)))]),OP 29 (.bK 6 [.int .i64 0,.int .i32 0,.int .u8 0,.int .u8 0,.sl 0 [] .nil,.sl 0 [] .nil] 1 [(0,(.t 28))]),OP 30 (.append 6 64 (.t 26) (.t 29)),MV 8 30] 0 [2,4,8,20,21,22]))) (.reg [BI 31 .add 22 1,MV 22 31] 0 [2,4,8,20,21,22]))))
def oV:RFn:=⟨2,34,(SR [OP 2 (.box 5 (.t 0)),OP 4 (.alloc [.int .i64 0,.int .u8 0,.sl 0 [] .nil,.sl 0 [] .nil,.sl 0 [] .nil]),OP 5 (.mov (.c (.sl 0 [] .nil)))] [1,2,4] (SR [FA 12 4 2,LD 13 12,MV 14 1,OP 15 (.call 60 [.t 13,.t 14]),MV 11 15,OP 16 (.ext (.t 11) 0),OP 17 (.ext (.t 11) 1),MV 6 16,MV 7 17] [2,4,6,7] (SR [MV 18 6,FA 19 4 2,SA 1 19 18] [2,4,7] (SR [OP 8 (.mov (.c (.sl 0 [] .nil)))] [2,4,7,8] (.seq (SR [MV 20 7,OP 21 (.len (.t 20)),OP 22 (.mov (.c (.int .i64 0)))] [2,4,8,20,21,22] (.blk 0 (.loop s9))) (SR [LT 32 5 2,MV 33 8,SA 5 4 32,MV 5 33] [4,5] .ret)))))),[.c 4 true 5,.t 5]⟩
theorem BG:aK PG.P (aA PG.P 91 oV) 91=some oV:=by kernel_rfl
def jd (p:Pa)(b:Int):Pa × List Ac:=
 if 64<=b then jU p b
 else if cW b=false\/2<=(p.I.length:Int) then (pa0 6,[])
 else (⟨p.m,p.pr,p.P,p.I++ [b],p.U⟩,[])
theorem Wu {p:Pa}(hp:cS p)(hb:0<=b/\b<=255):eZ PG 95 (paH p b) (jH p) (fun n=>paF (jd p b)):=by
 obtain ⟨m,pr,P,I,U⟩:=p
 obtain ⟨h1,h2,h3,h4,h5,h6,h7⟩:=hp
 simp only at *
 refine eZ.iR um GG (fun n=>by simp[uY,paH]) fun n=>?_
 unfold uY
 dsimp only[paH,jH]
 simp -implicitDefEqProofs -dsimp only[DO,mH,List.length_set,List.take_length,yd,uh,gw,iQ,iT,vcR,↓vcQ,if_true,if_false,implies_true,simprocAttr,ne_eq,exists_eq_left,exists_eq_left',Function.comp_apply]
 have ht1:List.take (I.length+1) (I++ [b])=I++ [b]:=List.take_of_length_le (by simp)
 rw[ht1]
 have leaf:∀(x:DV) (y:Pa × List Ac),jd ⟨m,pr,P,I,U⟩ b=y->wkT x (paR y)->wkT x (paF (jd ⟨m,pr,P,I,U⟩ b)).1/\[]=(paF (jd ⟨m,pr,P,I,U⟩ b)).2:=fun x y h1 h2=>by rw[h1];exact ⟨h2,rfl⟩
 refine ⟨fun c1=>⟨⟨h1,h2,h3⟩,leaf _ _ (by unfold jd;rw[if_pos c1]) (fK _)⟩,fun c1=>⟨hb, ?_⟩⟩
 cases hv:cW b
 ·rw[gm]
  refine leaf _ (pa0 6,[]) (by unfold jd;rw[if_neg c1,if_pos (.inl hv)]) ?_
  simp[paR,paD,pa0,mX,dH,cL,dI,dJ,dA,ff,fe,bX,bu]
 ·rw[iB]
  refine ⟨fun c2=>leaf _ (pa0 6,[]) (by unfold jd;rw[if_neg c1,if_pos (.inr c2)]) ?_,fun c2=>⟨⟨by omega,by omega⟩,leaf _ (⟨m,pr,P,I++ [b],U⟩,[]) (by unfold jd;rw[if_neg c1,if_neg (by rw[hv];simp;exact Int.not_le.1 c2)]) ?_⟩⟩
  all_goals simp[paR,paD,pa0,mX,dH,cL,dI,dJ,dA,ff,fe,bX,bu]
def jC (p:Pa)(b:Int):Pa × List Ac:=
 if cW b=false then (pa0 0,[⟨2,0,b,0,none,some p.I⟩])
 else if 2<=(p.I.length:Int) then (pa0 3,[])
 else (⟨p.m,p.pr,p.P,p.I++ [b],p.U⟩,[])
theorem Wt {p:Pa}(hp:cS p)(hb:0<=b/\b<=255):eZ PG 93 (paH p b) (jH p) (fun n=>paF (jC p b)):=by
 obtain ⟨m,pr,P,I,U⟩:=p
 obtain ⟨h1,h2,h3,h4,h5,h6,h7⟩:=hp
 simp only at *
 refine eZ.iR um GF (fun n=>by simp[uX,paH]) fun n=>?_
 unfold uX
 dsimp only[paH,jH]
 simp -implicitDefEqProofs -dsimp only[DO,mH,List.length_set,List.take_length,yd,uh,gw,iQ,iT,vcR,↓vcQ,if_true,if_false,implies_true,simprocAttr,ne_eq,exists_eq_left,exists_eq_left',Function.comp_apply]
 have ht1:List.take (I.length+1) (I++ [b])=I++ [b]:=List.take_of_length_le (by simp)
 rw[ht1]
 have leaf:∀(x:DV) (y:Pa × List Ac),jC ⟨m,pr,P,I,U⟩ b=y->wkT x (paR y)->wkT x (paF (jC ⟨m,pr,P,I,U⟩ b)).1/\[]=(paF (jC ⟨m,pr,P,I,U⟩ b)).2:=fun x y h1 h2=>by rw[h1];exact ⟨h2,rfl⟩
 refine ⟨hb, ?_⟩
 cases hv:cW b
 ·rw[gm]
  refine leaf _ (pa0 0,[⟨2,0,b,0,none,some I⟩]) (by unfold jC;rw[hv,if_pos rfl]) ?_
  simp[paR,paD,pa0,mX,dH,cL,dI,dJ,dA,ff,fe,bX,bu]
 ·rw[iB]
  refine ⟨fun c2=>leaf _ (pa0 3,[]) (by unfold jC;rw[hv,if_neg (by decide),if_pos c2]) ?_,fun c2=>⟨⟨by omega,by omega⟩,leaf _ (⟨m,pr,P,I++ [b],U⟩,[]) (by unfold jC;rw[hv,if_neg (by decide),if_neg c2]) ?_⟩⟩
  all_goals simp[paR,paD,pa0,mX,dH,cL,dI,dJ,dA,ff,fe,bX,bu]
def jk (b:Int):Pa × List Ac:=
 if cW b=true then (⟨2,0,[],[b],[]⟩,[])
 else if b=91 then (pa0 4,[])
 else if b=93\/b=80\/b=88\/b=94\/b=95 then (pa0 7,[])
 else (pa0 0,[⟨2,0,b,0,none,none⟩])
theorem aaz {p:Pa}(hp:cS p)(hb:0<=b/\b<=255):eZ PG 92 (paH p b) (jH p) (fun n=>paF (jk b)):=by
 obtain ⟨m,pr,P,I,U⟩:=p
 obtain ⟨h1,h2,h3,h4,h5,h6,h7⟩:=hp
 simp only at *
 refine eZ.iR um JV (fun n=>by simp[y4,paH]) fun n=>?_
 unfold y4
 dsimp only[paH,jH]
 simp -implicitDefEqProofs -dsimp only[DO,mH,List.length_set,List.take_length,yd,uh,gw,iQ,iT,vcR,↓vcQ,if_true,if_false,implies_true,simprocAttr,ne_eq,exists_eq_left,exists_eq_left',Function.comp_apply]
 refine ⟨hb, ?_⟩
 have leaf:∀(x:DV) (y:Pa × List Ac),jk b=y->wkT x (paR y)->wkT x (paF (jk b)).1/\[]=(paF (jk b)).2:=fun x y h1 h2=>by rw[h1];exact ⟨h2,rfl⟩
 cases hv:cW b
 ·rw[gm]
  have e0:jk b=if b=91 then (pa0 4,[]) else if b=93\/b=80\/b=88\/b=94\/b=95 then (pa0 7,[]) else (pa0 0,[⟨2,0,b,0,none,none⟩]):=by unfold jk;rw[hv,if_neg (by decide)]
  have e1:b=91->jk b=(pa0 4,[]):=fun h=>by rw[e0,if_pos h]
  have e2:¬b=91->(b=93\/b=80\/b=88\/b=94\/b=95)->jk b=(pa0 7,[]):=fun h h2=>by rw[e0,if_neg h,if_pos h2]
  have e3:¬b=91->¬(b=93\/b=80\/b=88\/b=94\/b=95)->jk b=(pa0 0,[⟨2,0,b,0,none,none⟩]):=fun h h2=>by rw[e0,if_neg h,if_neg h2]
  refine ⟨fun c1=>leaf _ _ (e1 c1) ?_,fun c1=>⟨fun c2=>leaf _ _ (e2 c1 (by omega)) ?_,fun c2=>⟨fun c3=>leaf _ _ (e2 c1 (by omega)) ?_,fun c3=>⟨fun c4=>leaf _ _ (e2 c1 (by omega)) ?_,fun c4=>⟨fun c5=>leaf _ _ (e2 c1 (by omega)) ?_,fun c5=>?_⟩⟩⟩⟩⟩
  case refine_6=>exact ⟨fun c6=>leaf _ _ (e2 c1 (by omega)) (by simp[paR,paD,pa0,mX,dH,cL,dI,dJ,dA,ff,fe,bX,bu]),fun c6=>leaf _ _ (e3 c1 (by omega)) (by simp[paR,paD,pa0,mX,dH,cL,dI,dJ,dA,ff,fe,bX,bu])⟩
  all_goals simp[paR,paD,pa0,mX,dH,cL,dI,dJ,dA,ff,fe,bX,bu]
 ·rw[iB]
  refine leaf _ (⟨2,0,[],[b],[]⟩,[]) (by unfold jk;rw[hv,if_pos rfl]) ?_
  simp[paR,paD,pa0,mX,dH,cL,dI,dJ,dA,ff,fe,bX,bu]
def iS (p:Pa)(b:Int):Pa × List Ac:=(⟨p.m,p.pr,p.P,p.I,(cD p.U b).1⟩,(cD p.U b).2.map fun r=>⟨0,r,0,0,none,none⟩)
theorem M1 {p : Pa}  (hp : cS p) (hb : 0 <= b /\ b <= 255) : eZ PG 91 (paH p b) (jH p) (fun n => paF (iS p b)) := by
  obtain ⟨m, pr, P, I, U⟩ := p
  obtain ⟨h1, h2, h3, h4, h5, h6, h7⟩ := hp
  simp only at *
  refine eZ.iR um BG (fun n => by simp[oV, paH]) fun n => ?_
  unfold oV
  dsimp only[paH, jH]
  simp -implicitDefEqProofs -dsimp only[DO, mH, eG, List.length_set, List.take_length, yd, uh, gw, iQ, iT, vcR, ↓vcQ, if_true, if_false, implies_true, simprocAttr, ne_eq, exists_eq_left, exists_eq_left', Function.comp_apply]
  have hU : U.length <= 1000000 := by omega
  refine ⟨⟨h3, hU, hb⟩, ?_⟩
  have hr := yR h3 hb hU
  have hl2 := nM U b
  have hgF : iS ⟨m, pr, P, I, U⟩ b = (⟨m, pr, P, I, (cD U b).1⟩, (cD U b).2.map fun r => ⟨0, r, 0, 0, none, none⟩) := rfl
  rw[hgF]
  generalize (cD U b).2 = R at hr hl2 ⊢
  generalize (cD U b).1 = U1
  clear hgF
  refine bk.own 8 6 rfl (.inl rfl) ?_
  refine bk.ac1 um (S := fun k (i : Nat) => ⟨[(2, .ptr k 0 0), (4, .ptr (k + 1) 0 0), (8, .own (k + 2) 0 i), (20, .sl 1 (af .i32 R) .any), (21, .int .i64 R.length), (22, .int .i64 i)],
    List.replicate k none ++ [some (.box [.int .i64 m, .int .u8 pr, .own (k + 3) 0 P.length, .own (k + 4) 0 I.length, .sl 1 (af .u8 U1) .any]), some (.box [.int .i64 0, .int .u8 0, .sl 0 [] .nil, .sl 0 [] .nil, .sl 0 [] .nil]),
      some (.arr 6 (cz ((R.take i).map fun r => ⟨0, r, 0, 0, none, none⟩))), some (.arr 1 (af .i64 P)), some (.arr 1 (af .u8 I))]⟩) (I := fun i => i <= R.length) (μ := fun i => R.length - i) (n + 2) 0 (by omega) ?_ ?_
  · simp -implicitDefEqProofs -dsimp only[List.take_zero, uh, gw, iQ, iT, vcR, ↓vcQ, if_true, if_false, implies_true, simprocAttr, ne_eq, exists_eq_left, exists_eq_left', Function.comp_apply]
  · intro k i hk hi
    have hL : ((R.take i).map fun r => (⟨0, r, 0, 0, none, none⟩ : Ac)).length = i := by rw[List.length_map, List.length_take]; omega
    unfold s9
    simp -implicitDefEqProofs -dsimp only[DO, hL, mH, eG, List.length_set, List.take_length, uh, gw, iQ, iT, vcR, ↓vcQ, if_true, if_false, implies_true, simprocAttr, ne_eq, exists_eq_left, exists_eq_left', Function.comp_apply]
    refine ⟨fun h => ?_, fun h => ?_⟩
    · have h0 : i < R.length := by omega
      refine ⟨⟨by omega, h⟩, h0, ⟨by omega, by omega⟩, by omega, i + 1, ⟨⟨rfl, by rw[aO] <;> omega⟩, ?_⟩, by omega, by omega⟩
      have hgd : R.getD i 0 = R[i] := by rw[List.getD_eq_getElem?_getD, List.getElem?_eq_getElem h0]; rfl
      rw[List.take_succ_eq_append_getElem h0, List.map_append, hgd]
      rfl
    · have h1 : i = R.length := by omega
      subst h1
      rw[List.take_length, List.take_of_length_le (by simp)]
      exact ⟨by omega, fK _, rfl⟩
def ki (g:Pa->Int->Pa × List Ac)(q:Int->Prop):List DV->Option nA
 | [.agg [.int .i64 m,.int .u8 pr,.own o1 f1 n1,.own o2 f2 n2,u],.int .u8 b]=>some ⟨fun T=> ¬o1=o2/\f1=0/\f2=0/\pZ .i64 n1 T[o1]?/\pZ .u8 n2 T[o2]?/\isS .u8 u/\cS ⟨m,pr,cK T[o1]?,cK T[o2]?,aG u⟩/\q b,
   fun T=>(paR (g ⟨m,pr,cK T[o1]?,cK T[o2]?,aG u⟩ b),pY [o1,o2] T++ [none,none])⟩
 | _=>none
theorem VP (g:Pa->Int->Pa × List Ac)(q:Int->Prop)(m pr b:Int)(o1 f1 n1 o2 f2 n2:Nat)(u:DV):ki g q [.agg [.int .i64 m,.int .u8 pr,.own o1 f1 n1,.own o2 f2 n2,u],.int .u8 b]=
  some ⟨fun T=> ¬o1=o2/\f1=0/\f2=0/\pZ .i64 n1 T[o1]?/\pZ .u8 n2 T[o2]?/\isS .u8 u/\cS ⟨m,pr,cK T[o1]?,cK T[o2]?,aG u⟩/\q b,
   fun T=>(paR (g ⟨m,pr,cK T[o1]?,cK T[o2]?,aG u⟩ b),pY [o1,o2] T++ [none,none])⟩:=ak _
theorem vS {f:Nat}{g:Pa->Int->Pa × List Ac}{q:Int->Prop}(h:∀p b,cS p->q b->eZ PG f (paH p b) (jH p) (fun n=>paF (g p b)))(args:List DV)(s:nA)(hs:ki g q args=some s):HOk PG f args s:=by
 unfold ki at hs
 split at hs
 ·rename_i m pr o1 f1 n1 o2 f2 n2 u b
  obtain rfl:=sj hs
  intro T K ⟨p1,p2,p3,p4,p5,p6,p7,p8⟩ hK
  subst p2 p3
  obtain ⟨e1,l1,k1⟩:=sH p4
  obtain ⟨e2,l2,k2⟩:=sH p5
  obtain ⟨e3,k3⟩:=zm p6
  refine aj.hand [o1,o2] _ (by simp[p1]) rfl (fun i o ob ho hob=>?_) (fun d hd o ho=>?_) ?_ (h _ b p7 p8) (by simpa [paF] using hK)
  ·rcases i with _ | _ | i
   ·simp[jH] at ho hob;subst ho hob;exact e1
   ·simp[jH] at ho hob;subst ho hob;exact e2
   ·simp at ho
  ·simp only[List.mem_cons,List.not_mem_nil,or_false] at hd
   rcases hd with rfl | rfl
   ·rw[e3] at ho
    simp[eu,pL,jR] at ho
    simp;exact ho
   ·simp[eu,pL,jR] at ho
  ·simp only[paH,List.map_cons,List.map_nil,lK,qO,oo,pos,l1,l2]
   rw[e3]
   simp[lK,qO,oo,pos,p1,aL]
 ·cases hs
end
end Go.Proofs.YtjmnbpilnneonaaGreatDoor
